/- The law: for every input it returns true, and each argument reads behind the call as it read before; and what leads there. Conditions: each lemma's own. -/
import Derived.ProofKit
import Derived.SizedLaws
import Derived.Test.YticbaadnibdbkaaGreatChecked
import Derived.Test.YticbaadnibdbkaaGreatRows
import Derived.Test.YticbaadnibdbkaaGreatNRM7
set_option linter.unusedVariables false
set_option linter.unusedSimpArgs false
set_option maxHeartbeats 2000000
set_option linter.defProp false
noncomputable section
namespace Go.Proofs.YticbaadnibdbkaaGreat
open Go.RowKit
def ag1:=@List.exists_cons_of_length_eq_add_one
def ai7:=@Nat.succ.inj
def ahw (n:Nd):AH:=.box 25 [.ptr 1 0] :: ndO 1 n
def Z_:PH Nd:=PH.ZV (aH (dQ 25 (ax (aZ 1 0) dL)) (aeQ 1 av)) (·.2.1) (fun n=>(((),()),n,()))
def gw (n:Nd) (r:Record):Bool:=decide (r.kind=4) && decide (r.a<=n.c.commit)
def MV (n:Nd) (l:List Record):Int:=if l.any (gw n)=true then (l.findIdx (gw n):Int) else -1
section
variable {n:Nd} {l:List Record} {k:Nat} {r:Record}
def ahs (h:(l.take k).any (gw n)=false) (a:l[k]? = some r) (b:gw n r=false):(l.take (k+1)).any (gw n)=false:=by
 rw [ai a,List.any_append,h]; simp [b]
def ajS (h:(l.take k).any (gw n)=false) (b:l[k]? = some r) (c:gw n r=true):(k:Int)=MV n l:=by
 have a:=aar.1 b;have d:l.any (gw n)=true:=List.any_eq_true.2 ⟨r,ac7 b,c⟩;rw [MV,if_pos d];have e:l.findIdx (gw n)=k:=by
  rw [List.findIdx_eq a.1];refine ⟨by rw [a.2]; exact c,fun j f=>?_⟩;have:=List.any_eq_false.1 h (l[j]'(by have:=a.1; omega)) (List.mem_iff_getElem?.2 ⟨j,by rw [List.getElem?_take_of_lt f,List.getElem?_eq_getElem]⟩);simpa using this
 rw [e]
def aia (h:(l.take k).any (gw n)=false) (a:(l.length:Int)<=k):-1=MV n l:=by
 rw [List.take_of_length_le aK] at h;rw [MV,if_neg (by rw [h]; decide)]
def aip:decide (0<=MV n l)=l.any (gw n):=by
 unfold MV;cases h:l.any (gw n) <;> simp
end
def Fe:Kn:=aM (ae (kT (.nm .record)) (ae (kC (aZ 0 0)) ak)) Z_ fun (r,_,_) n=>⟨[],[.c (.bool (.atom ((gw n r))))],none,false⟩
theorem Wb:CK 97 Fe:=ag fun (r,_,_) n _=>by
 refine aq Aq [] Tryz.func97 (?_:df r ((r.kind=4->decide (r.a<=n.c.commit)=gw n r)/\(¬r.kind=4->false=gw n r)));(repeat' with_reducible first|apply bc|refine ba ?_|intro)
 all_goals (first | exact bm | (simp only [gw]; simp_all; done) | exact rfl)
def Xj:bF:=(aP 97 Fe Xm)
def CD:aw Tryz.prog (aj tyT) Xj:=(ah Wb Aq)
def agO (l:List Record) (n:Nd):List (Nat × LI):=[(2,{ σ:=Nat,F:=fun k=>([(0,one (.fz (.nm .record) (l))),(1,one (.fn 97 [] [(0,0)])),(7,one (.int (l).length)),(8,one (.int k))],(ahw (n))),J:=fun k=>k<=l.length/\(l.take k).any (gw n)=false,μ:=fun k=>(l).length - k })]
def Xi:Kn:=aM (ae (kC (cL (.nm .record))) (ae (kC (rJ 97 [] [(0,0)])) ak)) Z_ fun (l,_,_) n=>⟨[],[.c (.int ((MV n l)))],none,false⟩
theorem aek:CK 168 Xi:=ag fun (l,_,_) n _=>by
 refine aq CD (agO l n) Tryz.func168 (?_:(fun (a:Nat)=>l.length*48<=140737488355328->∃ (c:Nat),(l=l/\(↑l.length:Int)=(↑a:Int)/\0=(↑c:Int)/\bV n n)/\(c<=a/\(List.take c l).any (gw n)=false)/\∀ (s:Nat),s<=a/\(List.take s l).any (gw n)=false->((↑s:Int)<(↑a:Int)->0<=(↑s:Int)/\(↑s:Int)<(↑l.length:Int)/\∀ (x:Record),l[s]? = some x->df x ((gw n x=true->(↑s:Int)=MV n l)/\(gw n x=false->I64 ((↑s:Int)+1)/\∃ (b:Nat),(l=l/\(↑a:Int)=(↑a:Int)/\(↑s:Int)+1=(↑b:Int)/\bV n n)/\(b <= a/\(List.take b l).any (gw n)=false)/\a - b < a - s)))/\((↑a:Int)<=(↑s:Int) -> -1=MV n l)) l.length);iterate 3 ((all_goals (repeat' with_reducible first|apply bc|refine ba ?_|intro)); (all_goals try (first | exact bm | exact rfl | exact (ahs ab ab ab) | exact (ajS ab ab ab) | exact (aia ab ab))); all_goals try first | refine ⟨‹Nat› + 1,?_⟩ | refine ⟨0,?_⟩)
def Yo:bF:=(aP 168 Xi Xj)
def CW:aw Tryz.prog (aj tyT) Yo:=(ah aek CD)
def Xt:Kn:=aM (ae (kC (cL (.nm .record))) (ae (kC (rJ 97 [] [(0,0)])) ak)) Z_ fun (l,_,_) n=>⟨[],[.c (.bool (.atom ((l.any (gw n)))))],none,false⟩
def adU:CK 96 Xt:=ag fun (l,_,_) n _=>by
 refine aq CW [] Tryz.func96 (?_:l.length*48<=140737488355328->I64 (MV n l)->decide (0<=MV n l)=l.any (gw n));(repeat' with_reducible first|apply bc|refine ba ?_|intro)
 all_goals (first | exact bm | exact aip)
def XJ:bF:=(aP 96 Xt Yo)
def zr:aw Tryz.prog (aj tyT) XJ:=(ah adU CW)
variable {x:Letter} {n:NdC}
def adw (h:(¬ mayL x=0\/¬ x.to=n.me)\/n.many<=x.frm):dr n x=false:=if_pos h
def aec (h:mayL x=0) (b:x.to=n.me) (c:x.frm<n.many) (a:¬ x.kind=3):dr n x=true:=by rw [dr,if_neg aK,if_pos a]
def aeo (h:mayL x=0) (b:x.to=n.me) (c:x.frm<n.many) (d:x.kind=3) (a:¬ (aE n.st x).2.2.2=0):dr n x=false:=by rw [dr,if_neg aK,if_neg aK,if_pos a]
variable {n:Nd}
def aeN (h:mayL x=0) (a:x.to=n.c.me) (b:x.frm<n.c.many) (d:x.kind=3) (e:(aE n.c.st x).2.2.2=0):(!(aE n.c.st x).1.any (gw n))=dr n.c x:=by rw [dr,if_neg aK,if_neg aK,if_neg aK]; rfl
def Pr:Kn:=aM (ae (kC (aZ 0 0)) (ae (kT (.nm .letter)) ak)) rM fun (_,x,_) n=>⟨[],[.c (.bool (.atom ((dr n.c x))))],none,false⟩
def abI:CK 55 Pr:=ag fun (_,x,_) n _=>by
 refine aq zr [] Tryz.func55 (?_:(fun a=>aS x (I64 (mayL x)->((¬mayL x=0\/¬x.to=n.c.me)\/n.c.many<=x.frm->false=dr n.c x)/\((mayL x=0/\x.to=n.c.me)/\x.frm<n.c.many->(¬x.kind=3->true=dr n.c x)/\(x.kind=3->(aE n.c.st x).fst.length*48<=140737488355328->I64 a.fst->I64 a.snd->(¬a.snd=0->false=dr n.c x)/\(a.snd=0->(!(aE n.c.st x).fst.any (gw n))=dr n.c x))))) (aE n.c.st x).snd.snd);(repeat' with_reducible first|apply bc|refine ba ?_|intro)
 all_goals (first | exact bm | exact (aeN ab ab ab ab ab) | exact (adw ab).symm | exact (aec ab ab ab ab).symm | exact (aeo ab ab ab ab ab).symm)
def XM:bF:=(aP 55 Pr XJ)
def sP:aw Tryz.prog (aj tyT) XM:=(ah abI zr)
theorem adq:∀ {k:Nat} {n:Nd},(n.dw k).nx=n.nx/\(n.dw k).d=n.d/\(n.dw k).c.me=n.c.me/\(n.dw k).c.st=n.c.st
 | 0,_=>⟨rfl,rfl,rfl,rfl⟩
 | k+1,n=>by
  unfold Nd.dw;split
  ·split
   ·exact adq
   grind
  grind
def XB:n.apply.nx=n.nx:=adq.1
variable {k:Int} {l:List Int}
theorem QE {s:Stable} (h:k<=(s.log.length:Int)):mi s l k<=(s.log.length:Int):=by
 unfold mi;grind
abbrev NM (n:Nd) (x:Letter):Nd:=⟨⟨n.c.me,n.c.many,n.c.bin,n.c.st,n.c.role,mi n.c.st ((n.mt.set x.frm.toNat (max (n.mt.getD x.frm.toNat (ao Sh.int)) (min x.a (n.c.st.log.length:Int)))).set n.c.me.toNat (n.c.st.log.length:Int)) n.c.commit,n.c.applied,n.c.s⟩,n.d,n.rp,n.vs,n.bn,n.nx.set x.frm.toNat (min (jz (n.nx.getD x.frm.toNat (ao Sh.int)) x) ((n.c.st.log.length:Int)+1)),n.mt.set x.frm.toNat (max (n.mt.getD x.frm.toNat (ao Sh.int)) (min x.a (n.c.st.log.length:Int)))⟩
abbrev PQ (n:Nd) (x:Letter):Nd:=⟨⟨n.c.me,n.c.many,n.c.bin,n.c.st,n.c.role,mi n.c.st (n.mt.set n.c.me.toNat (n.c.st.log.length:Int)) n.c.commit,n.c.applied,n.c.s⟩,n.d,n.rp,n.vs,n.bn,n.nx.set x.frm.toNat (min (jz (n.nx.getD x.frm.toNat (ao Sh.int)) x) ((n.c.st.log.length:Int)+1)),n.mt⟩
section
variable {n:Nd} {x:Letter}
def NA (h:x.ok=true):n.Sm x=NM n x:=by
 unfold Nd.Sm; dsimp only; rw [if_pos h]; rfl
def Li (h:x.ok=false):n.Sm x=PQ n x:=by
 unfold Nd.Sm; dsimp only; rw [if_neg (mb h)]; rfl
def aaj:(NM n x).apply.nx.length=n.nx.length:=by rw [XB]; exact agi
def abq:(PQ n x).apply.nx.length=n.nx.length:=by rw [XB]; exact agi
variable {G:Nd}
def aeV (a:n.Sm x=G) (h:(n.c.st.log.length:Int)<G.apply.nx.getD x.frm.toNat (ao Sh.int)):gB n x=⟨G.apply,[],0⟩:=by
 rw [gB,a]; exact if_pos h
def aet (a:n.Sm x=G) (h:G.apply.nx.getD x.frm.toNat (ao Sh.int)<=(n.c.st.log.length:Int)) (b:¬ (jf G.apply x.frm).2=0):gB n x=⟨G.apply,[],(jf G.apply x.frm).2⟩:=by
 rw [gB,a]; exact (if_neg (Int.not_lt.2 h)).trans (if_neg b)
def afO (a:n.Sm x=G) (h:G.apply.nx.getD x.frm.toNat (ao Sh.int)<=(n.c.st.log.length:Int)) (b:(jf G.apply x.frm).2=0):gB n x=⟨G.apply,[(jf G.apply x.frm).1],0⟩:=by
 rw [gB,a]; exact (if_neg (Int.not_lt.2 h)).trans (if_pos b)
end
def dh (n:Nd) (k:Nat):Nd:={ n with c:={ n.c with role:=2 },nx:=List.replicate k ((n.c.st.log.length:Int)+1)++n.nx.drop k,mt:=List.replicate k (0:Int)++n.mt.drop k }
theorem xN {b:Type} {a:b}:∀ {l:List b} {k:Nat},k<l.length->(List.replicate k a++l.drop k).set k a=List.replicate (k+1) a++l.drop (k+1)
 | x :: l,0,_=>by simp
 | x :: l,k+1,h=>by
  rw [List.replicate_succ,List.drop_succ_cons,List.cons_append,List.set_cons_succ,xN (by simpa using h),List.replicate_succ (n:=k+1),List.cons_append,List.drop_succ_cons]
section
variable {n:Nd} {k:Nat}
def af1 (h:(k:Int)<(n.nx.length:Int)):(dh n k).nx.set k ((n.c.st.log.length:Int)+1)=(dh n (k+1)).nx:=xN aK
def adX (h:(k:Int)<(n.mt.length:Int)):(dh n k).mt.set k 0=(dh n (k+1)).mt:=xN aK
def Xe (h:k<=n.nx.length):(dh n k).nx.length=n.nx.length:=by
 simp only [dh,List.length_append,agt,List.length_drop]; omega
def afl (h:k<=n.mt.length):(dh n k).mt.length=n.mt.length:=by
 simp only [dh,List.length_append,agt,List.length_drop]; omega
variable (h1:(n.nx.length:Int)=n.c.many) (h2:(n.mt.length:Int)=n.c.many) (hk:k<=n.c.many.toNat) (hm:n.c.many<=k)
include h1 h2 hk hm
theorem abd:dh n k={ n with c:={ n.c with role:=2 },nx:=List.replicate n.nx.length ((n.c.st.log.length:Int)+1),mt:=List.replicate n.mt.length 0 }:=by
 unfold dh;grind
def aj3 (h:(n.c.st.log.length:Int)+1<=64) (a:(dh n k).aQ [⟨3,(n.c.st.log.length:Int)+1,(dh n k).c.st.term,[]⟩]=0):fT n=⟨(dh n k).save [⟨3,(n.c.st.log.length:Int)+1,(dh n k).c.st.term,[]⟩],(cc ((dh n k).save [⟨3,(n.c.st.log.length:Int)+1,(dh n k).c.st.term,[]⟩])).1,(cc ((dh n k).save [⟨3,(n.c.st.log.length:Int)+1,(dh n k).c.st.term,[]⟩])).2⟩:=by
 rw [abd h1 h2 hk hm] at a ⊢;exact (if_pos h).trans (if_pos a)
def ahE (h:(n.c.st.log.length:Int)+1<=64) (a:¬ (dh n k).aQ [⟨3,(n.c.st.log.length:Int)+1,(dh n k).c.st.term,[]⟩]=0):fT n=⟨(dh n k).save [⟨3,(n.c.st.log.length:Int)+1,(dh n k).c.st.term,[]⟩],[],(dh n k).aQ [⟨3,(n.c.st.log.length:Int)+1,(dh n k).c.st.term,[]⟩]⟩:=by
 rw [abd h1 h2 hk hm] at a ⊢;exact (if_pos h).trans (if_neg a)
def ahj (h:64<(n.c.st.log.length:Int)+1):fT n=⟨dh n k,(cc (dh n k)).1,(cc (dh n k)).2⟩:=by
 rw [abd h1 h2 hk hm];exact if_neg aK
end
def aa5 (n:Nd):List (Nat × LI):=[(4,{ σ:=Nat,F:=fun k=>([(0,one (.ptr 0 0)),(4,one (.int (n.c.st.log.length+1))),(22,one (.int n.c.many)),(23,one (.int k))],(mh ((dh n k)))),J:=fun k=>k<=n.c.many.toNat,μ:=fun k=>n.c.many.toNat - k })]
def E_:Kn:=aM (ae (kC (aZ 0 0)) (ae (kT (.nm .letter)) ak)) rM fun (_,x,_) n=>⟨[NdOK n,0<=x.frm/\x.frm<n.c.many,n.c.role=2,0<=x.a/\x.a<=64],[.c (.fz (.nm .letter) (((gB n x).l))),.c (.int (((gB n x).e)))],some ((mh ((gB n x).n))),false⟩
def SB:CK 103 E_:=ag fun (_,x,_) n H=>by
 have y:=cg H;have J:=cg (eU H);have K:=cg (eU (eU H));have L:=cg (eU (eU (eU H)));refine bw sP [] Tryz.func103 (?_:(fun b=>(fun p=>(fun C=>(fun h=>(fun I=>(fun o=>(fun B=>(fun g=>(fun m=>(fun j=>(fun i=>(fun f=>(fun u=>(fun q=>(fun D=>(fun z=>(fun F=>(fun A=>(fun r=>(fun v=>(fun t=>(fun w=>aS x (i/\j<(↑n.nx.length:Int)/\(m<=x.a/\x.a<=64)/\I64 (q+1)/\i/\j<(↑n.nx.length:Int)/\(I64 u->I64 (jz u x)->I64 u->(x.ok=true->i/\j<(↑n.mt.length:Int)/\i/\j<(↑n.mt.length:Int)/\(I64 (n.mt.getD f o)->I64 (n.mt.getD f o)->m<=b.me/\b.me<(↑F.length:Int)/\(I64 (F.getD B o)->(F.set B q).length<=12/\(I64 A->((m<=p/\A<=(↑h.log.length:Int))/\I)/\i/\j<(↑t.nx.length:Int)/\(I64 (t.nx.getD f o)->(q<t.nx.getD f o->g.l=[]/\m=g.e/\bV t g.n)/\(t.nx.getD f o<=q->(i/\j<(↑t.nx.length:Int))/\aS (jf t j).fst (I64 w->(¬w=m->g.l=[]/\w=g.e/\bV t g.n)/\(w=m->[(jf t j).fst]=g.l/\m=g.e/\bV t g.n))))))))/\(x.ok=false->m<=b.me/\b.me<(↑n.mt.length:Int)/\(I64 (n.mt.getD B o)->(n.mt.set B q).length<=12/\(I64 z->((m<=p/\z<=(↑h.log.length:Int))/\I)/\i/\j<(↑r.nx.length:Int)/\(I64 (r.nx.getD f o)->(q<r.nx.getD f o->g.l=[]/\m=g.e/\bV r g.n)/\(r.nx.getD f o<=q->(i/\j<(↑r.nx.length:Int))/\aS (jf r j).fst (I64 v->(¬v=m->g.l=[]/\v=g.e/\bV r g.n)/\(v=m->[(jf r j).fst]=g.l/\m=g.e/\bV r g.n)))))))))) (jf t j).snd) (Nd.mk (NdC.mk b.me b.many b.bin h b.role A p b.s) n.d n.rp n.vs n.bn D F).apply) (jf r j).snd) (Nd.mk (NdC.mk b.me b.many b.bin h b.role z p b.s) n.d n.rp n.vs n.bn D n.mt).apply) (mi h (F.set B q) C)) (n.mt.set f (max (n.mt.getD f o) (min x.a q)))) (mi h (n.mt.set B q) C)) (n.nx.set f (min (jz u x) (q+1)))) (↑h.log.length:Int)) (n.nx.getD f o)) j.toNat) (m<=j)) x.frm) (0:Int)) (gB n x)) b.me.toNat) (ao Sh.int)) ((↑n.rp.length:Int)<=p/\h.log.length<=10000)) b.st) b.commit) b.applied) n.c);obtain ⟨N,O,P⟩:=id y.d;have Q:=y.log;have S:=y.many;have T:=y.me;have o7:=y.com;have U:=y.term;have V:=y.rp;obtain ⟨W,X,Y,Z⟩:=y.len.resolve_left aK;(repeat' with_reducible first|apply bc|refine ba ?_|intro)
 all_goals (first | exact bm | exact (QE o7.2.2) | (rw [aaj]; omega) | (rw [abq]; omega) | (rw [agi]; omega) | (rw [agi,agi]; omega) | (rw [aeV (n:=n) (x:=x) (G:=NM n x) (NA ab) ab] <;> rfl) | (rw [aet (n:=n) (x:=x) (G:=NM n x) (NA ab) ab ab] <;> rfl) | (rw [afO (n:=n) (x:=x) (G:=NM n x) (NA ab) ab ab] <;> rfl) | (rw [aeV (n:=n) (x:=x) (G:=PQ n x) (Li ab) ab] <;> rfl) | (rw [aet (n:=n) (x:=x) (G:=PQ n x) (Li ab) ab ab] <;> rfl) | (rw [afO (n:=n) (x:=x) (G:=PQ n x) (Li ab) ab ab] <;> rfl))
def GB:Kn:=aM (ae (kC (aZ 0 0)) ak) rM fun _ n=>⟨[NdOK n,n.c.role=1],[.c (.fz (.nm .letter) (((fT n).l))),.c (.int (((fT n).e)))],some ((mh ((fT n).n))),false⟩
theorem UJ:CK 102 GB:=ag fun _ n u=>by
 have j:=cg u;have D:=cg (eU u);refine bw sP (aa5 n) Tryz.func102 (?_:(fun (v:Int)=>(fun (h:NdR)=>(fun (i:Int)=>(fun (f:Int)=>(fun (w:Int)=>(fun (m:Int)=>I64 v/\∃ (r:Nat),(v=m/\f=f/\i=(↑r:Int)/\bV (Nd.mk (NdC.mk n.c.me f n.c.bin n.c.st 2 n.c.commit n.c.applied n.c.s) n.d n.rp n.vs n.bn n.nx n.mt) (dh n r))/\r<=f.toNat/\∀ (s:Nat),(fun (a:Nd)=>(fun (o:List (den (Sh.nm NT.record)))=>(fun (g:Nd)=>s<=f.toNat->((↑s:Int)<f->(i<=(↑s:Int)/\(↑s:Int)<(↑a.nx.length:Int))/\(I64 (a.nx.getD s (ao Sh.int))->i<=(↑s:Int)/\(↑s:Int)<(↑a.mt.length:Int))/\(I64 (a.nx.getD s (ao Sh.int))->I64 (a.mt.getD s (ao Sh.int))->I64 ((↑s:Int)+1)/\∃ (p:Nat),(m=m/\f=f/\(↑s:Int)+1=(↑p:Int)/\bV (Nd.mk a.c a.d a.rp a.vs a.bn (a.nx.set s m) (a.mt.set s i)) (dh n p))/\p <= f.toNat/\f.toNat - p < f.toNat - s))/\(f<=(↑s:Int)->(m<=64->(i<=a.d.synced/\a.d.synced<=(↑a.d.b.length:Int)/\a.d.b.length<=65536)/\a.c.st.log.length<=10000/\o.length<=1000/\(I64 (a.aQ o)->(¬a.aQ o=i->h.l=[]/\a.aQ o=h.e/\bV g h.n)/\(a.aQ o=i->g.c.many<=5/\(g.c.role=i\/(↑g.nx.length:Int)=g.c.many)/\((cc g).fst.length*96<=140737488355328->I64 (cc g).snd->(cc g).fst=h.l/\(cc g).snd=h.e/\bV g h.n))))/\(64<m->a.c.many<=5/\(a.c.role=i\/(↑a.nx.length:Int)=a.c.many)/\((cc a).fst.length*96<=140737488355328->I64 (cc a).snd->(cc a).fst=h.l/\(cc a).snd=h.e/\bV a h.n)))) (a.save o)) [Record.mk w m a.c.st.term []]) (dh n s)) ((↑n.c.st.log.length:Int)+1)) 3) n.c.many) 0) (fT n)) ((↑n.c.st.log.length:Int)+1));obtain ⟨y,z,A⟩:=id j.d;have B:=j.log;have C:=j.many;have F:=j.me;have o7:=j.com;have G:=j.term;have H:=j.rp;obtain ⟨I,J,q,t⟩:=j.len.resolve_left aK;iterate 3 ((all_goals (repeat' with_reducible first|apply bc|refine ba ?_|intro)); (all_goals try (first | exact bm | exact rfl | exact (af1 aK) | exact (adX aK) | (rw [Xe aK]; omega) | (rw [afl aK]; omega) | exact (.inr ((congrArg Int.ofNat (Xe aK)).trans q)) | exact aev | exact C.2 | exact y | exact z | exact A | exact (Nat.le_trans B am) | (rw [aj3 (n:=n) (k:=‹Nat›) q t ab ab ab ab] <;> rfl) | (rw [ahE (n:=n) (k:=‹Nat›) q t ab ab ab ab] <;> rfl) | (rw [ahj (n:=n) (k:=‹Nat›) q t ab ab ab] <;> rfl))); all_goals try first | refine ⟨‹Nat› + 1,?_⟩ | refine ⟨0,?_⟩)
def WM:bF:=(aP 102 GB (aP 103 E_ XM))
def CT:aw Tryz.prog (aj tyT) WM:=(ah UJ (ah SB sP))
variable {t:Int}
theorem Je {s:Stable}:(stepsF s (aB s t)).1.log=s.log:=by
 unfold aB;split
 ·rfl
 rw [stepsF];split
 ·rw [stepsF];unfold aG;split
  ·rfl
  split
  ·rename_i u h;rw [di,if_neg (show ¬ (2:Int)=1 by decide),if_pos rfl,eT] at h;grind
  rfl
 rfl
abbrev awA (n:Nd) (x:Letter):Nd:=⟨(n.save (aB n.c.st x.term)).c,(n.save (aB n.c.st x.term)).d,(n.save (aB n.c.st x.term)).rp,(n.save (aB n.c.st x.term)).vs,(n.save (aB n.c.st x.term)).bn.set x.frm.toNat x.bin,(n.save (aB n.c.st x.term)).nx,(n.save (aB n.c.st x.term)).mt⟩
abbrev SP (n:Nd) (x:Letter):Nd:=⟨(n.save (aB n.c.st x.term)).c,(n.save (aB n.c.st x.term)).d,(n.save (aB n.c.st x.term)).rp,(n.save (aB n.c.st x.term)).vs.set x.frm.toNat true,(n.save (aB n.c.st x.term)).bn.set x.frm.toNat x.bin,(n.save (aB n.c.st x.term)).nx,(n.save (aB n.c.st x.term)).mt⟩
def Pc {s:Stable}:(aB s t).length<=1000:=Nat.le_trans gk am
section
variable {n:Nd} {x:Letter}
def ac8 (h:¬ n.aQ (aB n.c.st x.term)=0):bu n x=⟨n.save (aB n.c.st x.term),[],n.aQ (aB n.c.st x.term)⟩:=if_pos h
variable (h:n.aQ (aB n.c.st x.term)=0)
include h
def agd (a:¬ x.term=(n.save (aB n.c.st x.term)).c.st.term\/(n.save (aB n.c.st x.term)).c.role=0):bu n x=⟨n.save (aB n.c.st x.term),[],0⟩:=(if_neg (acY.2 h)).trans (if_pos a)
def Yu (a:NdOK n):NdOK (n.save (aB n.c.st x.term)):=by
 have e:(n.save (aB n.c.st x.term)).c.st=(stepsF n.c.st (aB n.c.st x.term)).1:=(xZ h).1;have b:=ot (l:=aB n.c.st x.term) a.log a.term;rw [<- e] at b;refine ⟨rz a.d,a.many,a.me,b.1,b.2,⟨a.com.1,a.com.2.1,?_⟩,a.len,a.rp⟩;rw [e,Je]; exact a.com.2.2
def abt (a:NdOK n):NdOK (awA n x):=by
 have k:=Yu h a;exact ⟨k.d,k.many,k.me,k.log,k.term,k.com,k.len.imp id fun q=>⟨q.1,by rw [agi]; exact q.2.1,q.2.2⟩,k.rp⟩
def abg (a:NdOK n):NdOK (SP n x):=by
 have k:=Yu h a;exact ⟨k.d,k.many,k.me,k.log,k.term,k.com,k.len.imp id fun q=>⟨by rw [agi]; exact q.1,by rw [agi]; exact q.2.1,q.2.2⟩,k.rp⟩
omit h in
def adB (a:NdOK n) (d:x.frm<n.c.many) (b:¬ (n.save (aB n.c.st x.term)).c.role=0):x.frm<((n.save (aB n.c.st x.term)).bn.length:Int)/\x.frm<((n.save (aB n.c.st x.term)).vs.length:Int):=by
 have q:=a.len.resolve_left b;exact ⟨by show x.frm<(n.bn.length:Int); omega,by show x.frm<(n.vs.length:Int); omega⟩
variable (h1:x.term=(n.save (aB n.c.st x.term)).c.st.term) (h2:¬ (n.save (aB n.c.st x.term)).c.role=0)
include h1 h2
def Ow:bu n x=if (x.kind=2/\x.ok=true)/\(n.save (aB n.c.st x.term)).c.role=1 then (if qp (SP n x).vs=true then fT (SP n x) else ⟨SP n x,[],0⟩) else if x.kind=4/\(n.save (aB n.c.st x.term)).c.role=2 then gB (awA n x) x else ⟨awA n x,[],0⟩:=
 (if_neg (acY.2 h)).trans (if_neg (by rintro (q | q); exact q h1; exact h2 q))
def ahm (a:x.kind=2) (b:x.ok=true) (d:(n.save (aB n.c.st x.term)).c.role=1) (e:qp (SP n x).vs=true):bu n x=fT (SP n x):=(Ow h h1 h2).trans ((if_pos ⟨⟨a,b⟩,d⟩).trans (if_pos e))
def aii (a:x.kind=2) (b:x.ok=true) (d:(n.save (aB n.c.st x.term)).c.role=1) (e:qp (SP n x).vs=false):bu n x=⟨SP n x,[],0⟩:=(Ow h h1 h2).trans ((if_pos ⟨⟨a,b⟩,d⟩).trans (if_neg (mb e)))
def ahN (d:(¬ x.kind=2\/x.ok=false)\/¬ (n.save (aB n.c.st x.term)).c.role=1) (e:x.kind=4) (f:(n.save (aB n.c.st x.term)).c.role=2):bu n x=gB (awA n x) x:=
 (Ow h h1 h2).trans ((if_neg (by rintro ⟨⟨a,b⟩,c⟩; rcases d with (q | q) | q; exact q a; exact mb q b; exact q c)).trans (if_pos ⟨e,f⟩))
def agT (d:(¬ x.kind=2\/x.ok=false)\/¬ (n.save (aB n.c.st x.term)).c.role=1) (e:¬ x.kind=4\/¬ (n.save (aB n.c.st x.term)).c.role=2):bu n x=⟨awA n x,[],0⟩:=
 (Ow h h1 h2).trans ((if_neg (by rintro ⟨⟨a,b⟩,c⟩; rcases d with (q | q) | q; exact q a; exact mb q b; exact q c)).trans (if_neg (by rintro ⟨a,b⟩; rcases e with q | q; exact q a; exact q b)))
end
def qu:Kn:=aM (ae (kC (aZ 0 0)) (ae (kT (.nm .letter)) ak)) rM fun (_,x,_) n=>⟨[NdOK n,0<=x.frm/\x.frm<n.c.many,0<=x.a/\x.a<=64],[.c (.fz (.nm .letter) (((bu n x).l))),.c (.int (((bu n x).e)))],some ((mh ((bu n x).n))),false⟩
def BI:CK 58 qu:=ag fun (_,x,_) n r=>by
 have m:=cg r;have s:=cg (eU r);have w:=cg (eU (eU r));refine bw CT [] Tryz.func58 (?_:(fun v=>(fun h=>(fun o=>(fun g=>(fun p=>(fun f=>(fun i=>(fun u=>(fun q=>(fun j=>aS x (((h<=n.d.synced/\n.d.synced<=(↑n.d.b.length:Int)/\n.d.b.length<=65536)/\n.c.st.log.length<=10000/\o.length<=1000)/\(I64 (n.aQ o)->(¬n.aQ o=h->g.l=[]/\n.aQ o=g.e/\bV f g.n)/\(n.aQ o=h->(¬x.term=f.c.st.term\/i=h->g.l=[]/\h=g.e/\bV f g.n)/\(x.term=f.c.st.term/\¬i=h->h<=x.frm/\x.frm<(↑f.bn.length:Int)/\(I64 (f.bn.getD p (ao Sh.int))->((x.kind=2/\x.ok=true)/\i=1->h<=x.frm/\x.frm<(↑f.vs.length:Int)/\(qp (f.vs.set p true)=true->NdOK j/\i=1/\((fT j).l.length*96<=140737488355328->I64 (fT j).e->(fT j).l=g.l/\(fT j).e=g.e/\bV (fT j).n g.n))/\(qp (f.vs.set p true)=false->g.l=[]/\h=g.e/\bV j g.n))/\((¬x.kind=2\/x.ok=false)\/¬i=1->(x.kind=4/\i=2->NdOK u/\(h<=x.frm/\x.frm<f.c.many)/\i=2/\(h<=x.a/\x.a<=64)/\(q.l.length*96<=140737488355328->I64 q.e->q.l=g.l/\q.e=g.e/\bV q.n g.n))/\(¬x.kind=4\/¬i=2->g.l=[]/\h=g.e/\bV u g.n)))))))) (Nd.mk f.c f.d f.rp (f.vs.set p true) (f.bn.set p v) f.nx f.mt)) (gB u x)) (Nd.mk f.c f.d f.rp f.vs (f.bn.set p v) f.nx f.mt)) f.c.role) (n.save o)) x.frm.toNat) (bu n x)) (aB n.c.st x.term)) (0:Int)) x.bin);obtain ⟨y,z,A⟩:=id m.d;have B:=m.log;(repeat' with_reducible first|apply bc|refine ba ?_|intro)
 all_goals (first | exact bm | exact Pc | exact (abg ab m) | exact (abt ab m) | exact (adB m s.2 ab).1 | exact (adB m s.2 ab).2 | exact s.2 | (rw [ac8 (n:=n) (x:=x) ab] <;> rfl) | (rw [agd (n:=n) (x:=x) ab ab] <;> rfl) | (rw [ahm (n:=n) (x:=x) ab ab ab ab ab ab ab] <;> rfl) | (rw [aii (n:=n) (x:=x) ab ab ab ab ab ab ab] <;> rfl) | (rw [ahN (n:=n) (x:=x) ab ab ab ab ab ab] <;> rfl) | (rw [agT (n:=n) (x:=x) ab ab ab ab ab] <;> rfl))
def XL:bF:=(aP 58 qu WM)
def Am:aw Tryz.prog (aj tyT) XL:=(ah BI CT)
section
variable {n:Nd} {x:Letter}
def On (b:dr n.c x=true):0<=x.frm/\x.frm<n.c.many/\0<=x.a/\x.a<=64/\1<=x.kind/\x.kind<=4:=by
 have h:=(xM b).1;have:=fP h.may;have:=h.frm;omega
def ajK {p:Prop} (a:dr n.c x=true) (b:¬ x.kind=1) (d:¬ x.kind=2) (e:¬ x.kind=3) (f:¬ x.kind=4):p:=by
 have:=On a; omega
def Jd (h:NdOK n):NdOK n.follow:=⟨h.d,h.many,h.me,h.log,h.term,h.com,.inl rfl,h.rp⟩
def ae8 (a:dr n.c x=true):dr n.follow.c x=true:=a
def afg (h:n.d.down=true):bl n x=⟨n,[],30⟩:=if_pos h
variable (h:n.d.down=false)
include h
def adf (a:dr n.c x=false):bl n x=⟨n,[],1⟩:=(if_neg (mb h)).trans (if_pos a)
variable (hm:dr n.c x=true)
include hm
def QU (a:n.c.st.term<x.term):bl n x=if x.kind=1 then cS n.follow x else if x.kind=3 then bZ n.follow x else bu n.follow x:=by
 rw [bl,if_neg (mb h),if_neg (by rw [hm]; decide),if_pos a]
def KU (a:x.term<=n.c.st.term):bl n x=if x.kind=1 then cS n x else if x.kind=3 then bZ n x else bu n x:=by
 rw [bl,if_neg (mb h),if_neg (by rw [hm]; decide),if_neg (show ¬ n.c.st.term<x.term by omega)]
section
variable (ht:n.c.st.term<x.term)
include ht
def aiB (a:x.kind=1):bl n x=cS n.follow x:=(QU h hm ht).trans (if_pos a)
def aku (a:x.kind=3):bl n x=bZ n.follow x:=(QU h hm ht).trans ((if_neg aK).trans (if_pos a))
def akb (a:x.kind=2):bl n x=bu n.follow x:=(QU h hm ht).trans ((if_neg aK).trans (if_neg aK))
def aif (a:x.kind=4):bl n x=bu n.follow x:=(QU h hm ht).trans ((if_neg aK).trans (if_neg aK))
end
section
variable (ht:x.term<=n.c.st.term)
include ht
def ajL (a:x.kind=1):bl n x=cS n x:=(KU h hm ht).trans (if_pos a)
def aji (a:x.kind=3):bl n x=bZ n x:=(KU h hm ht).trans ((if_neg aK).trans (if_pos a))
def agN (a:x.kind=2):bl n x=bu n x:=(KU h hm ht).trans ((if_neg aK).trans (if_neg aK))
def aj1 (a:x.kind=4):bl n x=bu n x:=(KU h hm ht).trans ((if_neg aK).trans (if_neg aK))
end
end
def uH:Kn:=aM (ae (kC (aZ 0 0)) (ae (kT (.nm .letter)) ak)) rM fun (_,x,_) n=>⟨[NdOK n],[.c (.fz (.nm .letter) (((bl n x).l))),.c (.int (((bl n x).e)))],some ((mh ((bl n x).n))),false⟩
def EB:CK 16 uH:=ag fun (_,x,_) n D=>by
 have z:=cg D;refine bw Am [] Tryz.func16 (?_:(fun h=>(fun i=>(fun f=>(fun g=>(fun r=>(fun v=>(fun w=>(fun y=>(fun A=>(fun p=>(fun B=>(fun b=>(fun C=>(fun q=>(fun j=>(fun m=>(fun o=>(fun u=>aS x ((n.d.down=true->b.l=[]/\30=b.e/\bV n b.n)/\(n.d.down=false->(dr n.c x=false->b.l=[]/\1=b.e/\bV n b.n)/\(dr n.c x=true->(n.c.st.term<x.term->(v->u)/\(¬v->(w->u)/\(¬w->(p->aS x (NdOK q/\dr A x=true/\p)/\aS x (m.l.length*g<=f->I64 m.e->m.l=b.l/\m.e=b.e/\bV m.n b.n))/\(¬p->(y->aS x (NdOK q)/\aS x (j.l.length*g<=f->I64 j.e->j.l=b.l/\j.e=b.e/\bV j.n b.n))/\(¬y->False)))))/\(x.term<=n.c.st.term->(v->C)/\(¬v->(w->C)/\(¬w->(p->aS x (NdOK n/\dr n.c x=true/\p)/\aS x (i.l.length*g<=f->I64 i.e->i.l=b.l/\i.e=b.e/\bV i.n b.n))/\(¬p->(y->aS x (NdOK n)/\aS x (h.l.length*g<=f->I64 h.e->h.l=b.l/\h.e=b.e/\bV h.n b.n))/\(¬y->False))))))))) (aS x (NdOK q/\B)/\aS x (o.l.length*g<=f->I64 o.e->o.l=b.l/\o.e=b.e/\bV o.n b.n))) (bu q x)) (bZ q x)) (cS q x)) (Nd.mk A n.d n.rp n.vs n.bn n.nx n.mt)) (aS x (NdOK n/\B)/\aS x (r.l.length*g<=f->I64 r.e->r.l=b.l/\r.e=b.e/\bV r.n b.n))) (bl n x)) ((0<=x.frm/\x.frm<n.c.many)/\0<=x.a/\x.a<=64)) (x.kind=3)) (NdC.mk n.c.me n.c.many n.c.bin n.c.st 0 n.c.commit n.c.applied n.c.s)) (x.kind=1)) (x.kind=2)) (x.kind=4)) (bu n x)) (96:Nat)) (140737488355328:Nat)) (bZ n x)) (cS n x));(repeat' with_reducible first|apply bc|refine ba ?_|intro)
 all_goals (first | exact bm | exact z | exact (Jd z) | exact (ae8 (n:=n) ab) | exact (ajK (n:=n) ab ab ab ab ab) | exact (On (n:=n) ab).1 | exact (On (n:=n) ab).2.1 | exact (On (n:=n) ab).2.2.1 | exact (On (n:=n) ab).2.2.2.1 | (rw [afg (n:=n) (x:=x) ab] <;> rfl) | (rw [adf (n:=n) (x:=x) ab ab] <;> rfl) | (rw [aiB (n:=n) (x:=x) ab ab ab ab] <;> rfl) | (rw [aku (n:=n) (x:=x) ab ab ab ab] <;> rfl) | (rw [akb (n:=n) (x:=x) ab ab ab ab] <;> rfl) | (rw [aif (n:=n) (x:=x) ab ab ab ab] <;> rfl) | (rw [ajL (n:=n) (x:=x) ab ab ab ab] <;> rfl) | (rw [aji (n:=n) (x:=x) ab ab ab ab] <;> rfl) | (rw [agN (n:=n) (x:=x) ab ab ab ab] <;> rfl) | (rw [aj1 (n:=n) (x:=x) ab ab ab ab] <;> rfl))
def Xl:bF:=(aP 16 uH XL)
def kH:aw Tryz.prog (aj tyT) Xl:=(ah EB Am)
variable {b:List UInt8}
theorem PB {s:Stable} (h:(stepsF s [⟨3,(s.log.length:Int)+1,t,b⟩]).2=0):(stepsF s [⟨3,(s.log.length:Int)+1,t,b⟩]).1={ s with log:=s.log++[⟨t,b⟩] }:=by
 have a:(aG s ⟨3,(s.log.length:Int)+1,t,b⟩).2=0:=by
  rw [stepsF] at h;grind
 obtain ⟨_,c⟩:=lR a;rw [di,if_neg (show ¬ (3:Int)=1 by decide),if_neg (show ¬ (3:Int)=2 by decide),if_pos rfl,du,if_neg (by dsimp only; omega)] at c;rw [jX a];grind
def Ir {d:Dsk} {s:Stable} {l:List Record} (h:(saveF d s l).2.2=0):(stepsF s l).2=0:=(xZ h).2
variable {m:Nd} {L' L:List Record}
def StepR.of_eq {a:Nd} {l:List Letter} (h:StepR m L a l L') (e:m.d=n.d) (f:m.c.me=n.c.me/\m.c.many=n.c.many/\m.c.commit=n.c.commit/\m.c.st=n.c.st/\m.c.bin=n.c.bin):StepR n L a l L':=by
 obtain ⟨g,i,j,o,p⟩:=f;exact ⟨h.inv,h.pre,by rw [<- g,<- i]; exact h.me,by rw [<- e]; exact h.len,h.lets,fun q r=>by rw [<- j,<- o,<- p]; exact h.mono (by rw [e]; exact q) r⟩
theorem EH (h:NInv n L) (a:n.d.down=false) (j:1<=t):∃ L',StepR n L (n.save [⟨3,(n.c.st.log.length:Int)+1,t,b⟩]) [] L':=by
 have i:∀ r ∈ [Record.mk 3 ((n.c.st.log.length:Int)+1) t b],r.kind=3->1<=r.b:=fun r f _=>by rw [acM.1 f]; exact j
 by_cases g:n.aQ [⟨3,(n.c.st.log.length:Int)+1,t,b⟩]=0
 ·have y:=nZ h a aa i g;have o:=h.up a;have e:=y.st;rw [PB (Ir g)] at e;have p:=h.ok.com;refine ⟨_,lJ h a y (fun f=>by rw [e]; exact o.vote f) (by rw [e]) ?_ ?_ fun _=>?_⟩
  ·grind
  ·grind
  rw [e]; dsimp only; rw [List.length_append]; omega
 exact lf h a aa i g
def Qu {c:Type} {a d:c}:∀ {k i:Nat},i<k->(List.replicate k a).getD i d=a:=fun h=>by
 rw [List.getD_eq_getElem?_getD,List.getElem?_replicate,if_pos h]; rfl
def abT (h:NInv n L) (j:n.d.down=false) (r:n.c.role=1):∃ L',StepR n L (fT n).n (fT n).l L':=by
 have a:=h.up j;have o:=a.vote aK;have e:=h.ok.len.resolve_left aK;have p:NInv { n with c:={ n.c with role:=2 },nx:=List.replicate n.nx.length ((n.c.st.log.length:Int)+1),mt:=List.replicate n.mt.length 0 } L:=
  ⟨⟨h.ok.d,h.ok.many,h.ok.me,h.ok.log,h.ok.term,h.ok.com,.inr ⟨e.1,e.2.1,by dsimp only; rw [agt]; exact e.2.2.1,by dsimp only; rw [agt]; exact e.2.2.2⟩,h.ok.rp⟩,h.d,h.le,fun _=>
   ⟨a.st,a.bin,⟨(by decide:(0:Int)<=2),(by decide:(2:Int)<=2)⟩,fun _=>o,fun _ i f=>by
    dsimp only at f ⊢;rw [Qu aK]; omega,a.pl⟩⟩
 unfold fT;dsimp only;split
 ·obtain ⟨L',q⟩:=EH (t:=n.c.st.term) (b:=[]) p j o.2;split
  ·exact ⟨L',(q.of_eq (n:=n) rfl ⟨rfl,rfl,rfl,rfl,rfl⟩).tell fun x g=>pw g⟩
  exact ⟨L',q.of_eq (n:=n) rfl ⟨rfl,rfl,rfl,rfl,rfl⟩⟩
 exact ⟨L,((StepR.refl p).of_eq (n:=n) rfl ⟨rfl,rfl,rfl,rfl,rfl⟩).tell fun x g=>pw g⟩
def abw {s:Stable}:k<=mi s l k:=by
 unfold mi;split <;> omega
theorem acu (c:0<=x.a):1<=jz k x:=by
 unfold jz;grind
theorem Zg (h:NInv n L) (o:n.d.down=false) (p:n.c.role=2) (v:0<=x.a) (w:x.frm≠n.c.me/\0<=x.frm/\x.frm<n.c.many):∃ L',StepR n L (gB n x).n (gB n x).l L':=by
 have g:=h.up o;have j:=h.ok.len.resolve_left aK;generalize f:n.nx.set x.frm.toNat (min (jz (n.nx.getD x.frm.toNat 0) x) ((n.c.st.log.length:Int)+1))=nx;generalize q:(if x.ok=true then n.mt.set x.frm.toNat (max (n.mt.getD x.frm.toNat 0) (min x.a (n.c.st.log.length:Int))) else n.mt)=mt;have y:nx.length=n.nx.length:=by rw [<- f,agi]
 have A:mt.length=n.mt.length:=by
  grind
 have B:NInv { n with nx:=nx,mt:=mt } L:=⟨⟨h.ok.d,h.ok.many,h.ok.me,h.ok.log,h.ok.term,h.ok.com,.inr ⟨j.1,j.2.1,by dsimp only; rw [y]; exact j.2.2.1,by dsimp only; rw [A]; exact j.2.2.2⟩,h.ok.rp⟩,h.d,h.le,fun _=>
   ⟨g.st,g.bin,g.role,g.vote,fun p i r=>by
    dsimp only;rw [<- f];by_cases e:x.frm.toNat=i
    ·subst e;rw [List.getD_eq_getElem?_getD,afr aK];have:=acu (k:=n.nx.getD x.frm.toNat 0) v;grind
    rw [List.getD_eq_getElem?_getD,List.getElem?_set_ne e,<- List.getD_eq_getElem?_getD];exact g.nx p i r,g.pl⟩⟩
 have C:n.Sm x={ ({ n with nx:=nx,mt:=mt }:Nd) with c:={ n.c with commit:=mi n.c.st (mt.set n.c.me.toNat (n.c.st.log.length:Int)) n.c.commit } }:=by
  unfold Nd.Sm;dsimp only;rw [f,q]
 obtain ⟨s,u⟩:=((StepR.refl B).of_eq (n:=n) rfl ⟨rfl,rfl,rfl,rfl,rfl⟩).commit o (c:=mi n.c.st (mt.set n.c.me.toNat (n.c.st.log.length:Int)) n.c.commit) abw (QE h.ok.com.2.2);dsimp only at s u;rw [<- C] at s u;obtain ⟨D,F,G,K,N,H⟩:=u;unfold gB;dsimp only;split
 ·grind
 split
 ·rename_i I;refine ⟨L,s.tell fun z J=>?_⟩;rw [acM.1 J];exact Gc (by rw [D]; exact o) (by rw [H]; exact p) I (by rw [F,G]; exact w)
 grind
def rV (h:NInv n L) (i:n.d.down=false) (q:ForMe n x) (B:n.c.role≠0->x.term<=n.c.st.term):∃ L',StepR n L (bu n x).n (bu n x).l L':=by
 have H:=fP q.may;have C:=qa q.may;have u:x.frm≠n.c.me/\0<=x.frm/\x.frm<n.c.many:=⟨by have:=q.to; omega,aK,q.frm⟩;have g:=h.up i;have f:(aB n.c.st x.term).length<=6:=Nat.le_trans gk am;by_cases j:n.aQ (aB n.c.st x.term)=0;case neg=>
  rw [ac8 j];exact lf h i f kB j
 have y:=nZ h i f kB j;have o:=y.st;rw [(oq (s:=n.c.st) (t:=x.term) aK aK).1] at o;have z:n.c.role≠0->n.save (aB n.c.st x.term)=n:=fun a=>y.no (by unfold aB; rw [if_pos (B a)]);have v:StepR n L (n.save (aB n.c.st x.term)) [] (L++aB n.c.st x.term):=lJ h i y (fun a=>by rw [z a]; exact g.vote a) (by rw [o]) (by rw [o]) (by rw [o]; exact h.ok.com.2.2) (fun _=>by rw [o]; exact Nat.le_refl _);by_cases p:¬ x.term=(n.save (aB n.c.st x.term)).c.st.term\/(n.save (aB n.c.st x.term)).c.role=0
 ·rw [agd j p]; exact ⟨_,v⟩
 rw [not_or] at p;have A:n.c.role≠0:=p.2;have e:=z A;rw [Ow j (acY.1 p.1) p.2];unfold awA SP;rw [e];have w:=h.ok.len.resolve_left A;have r:∀ {vs:List Bool},vs.length=n.vs.length->NInv ⟨n.c,n.d,n.rp,vs,n.bn.set x.frm.toNat x.bin,n.nx,n.mt⟩ L:=fun {vs} D=>
  ⟨⟨h.ok.d,h.ok.many,h.ok.me,h.ok.log,h.ok.term,h.ok.com,.inr ⟨by dsimp only; rw [D]; exact w.1,by dsimp only; rw [agi]; exact w.2.1,w.2.2⟩,h.ok.rp⟩,h.d,h.le,fun _=>⟨g.st,g.bin,g.role,g.vote,g.nx,g.pl⟩⟩
 split
 ·rename_i F;split
  ·obtain ⟨L',k⟩:=abT (r (vs:=n.vs.set x.frm.toNat true) agi) i F.2;exact ⟨L',k.of_eq (n:=n) rfl ⟨rfl,rfl,rfl,rfl,rfl⟩⟩
  exact ⟨L,(StepR.refl (r (vs:=n.vs.set x.frm.toNat true) agi)).of_eq (n:=n) rfl ⟨rfl,rfl,rfl,rfl,rfl⟩⟩
 split
 ·rename_i G;obtain ⟨L',k⟩:=Zg (x:=x) (r (vs:=n.vs) rfl) i G.2 aK u;exact ⟨L',k.of_eq (n:=n) rfl ⟨rfl,rfl,rfl,rfl,rfl⟩⟩
 exact ⟨L,(StepR.refl (r (vs:=n.vs) rfl)).of_eq (n:=n) rfl ⟨rfl,rfl,rfl,rfl,rfl⟩⟩
def Iu (h:NInv n L):∃ L',StepR n L (bl n x).n (bl n x).l L':=by
 cases a:n.d.down;case true=>rw [afg a]; exact ⟨L,.refl h⟩
 cases f:dr n.c x
 ·rw [adf a f]; exact ⟨L,.refl h⟩
 have g:=(xM f).1;by_cases o:n.c.st.term<x.term
 ·rw [QU a f o];have e:n.follow.c.role≠0->x.term<=n.follow.c.st.term:=fun e=>absurd rfl e;have i:ForMe n.follow x:=⟨g.may,g.to,g.frm⟩;split
  ·obtain ⟨L',k⟩:=GY h.follow a i e;exact ⟨L',k.lM⟩
  split
  ·rename_i j;obtain ⟨L',k⟩:=zY h.follow a (ae8 f) j;exact ⟨L',k.lM⟩
  obtain ⟨L',k⟩:=rV h.follow a i e;exact ⟨L',k.lM⟩
 rw [KU a f aK];have e:n.c.role≠0->x.term<=n.c.st.term:=fun _=>by omega
 split
 ·exact GY h a g e
 split
 ·rename_i j;exact zY h a f j
 exact rV h a g e
theorem Zj {c:Command} (h:NInv n L):∃ L',StepR n L (dg n c).n [] L':=by
 unfold dg;split
 ·exact ⟨L,.refl h⟩
 rename_i f;have a:n.d.down=false:=by simpa using f
 split
 ·exact ⟨L,.refl h⟩
 rename_i j;split
 ·exact ⟨L,.refl h⟩
 split
 ·exact ⟨L,.refl h⟩
 split
 ·exact ⟨L,.refl h⟩
 split
 ·exact ⟨L,.refl h⟩
 split
 ·exact ⟨L,.refl h⟩
 rename_i e;have g:(ez c n.c.st.term n.c.s.version).1.term=n.c.st.term:=by
  unfold ez at e ⊢;split at e
  ·grind
  grind
 have i:=((h.up a).vote aK).2;obtain ⟨L',k⟩:=EH (t:=(ez c n.c.st.term n.c.s.version).1.term) (b:=(ez c n.c.st.term n.c.s.version).1.b) h a (by rw [g]; exact i);dsimp only;split
 ·grind
 exact ⟨L',k⟩
theorem DkI.cM {d:Dsk} {L:List Record} {k:Int} (h:DkI d L):DkI (d.cM k) L/\(d.cM k).b=d.b:=by
 have f:=h.syn;have c:d.at_ k=d.b.length:=by unfold Dsk.at_; omega
 have a:(d.cM k).b=d.b:=by
  show d.b.take (d.at_ k).toNat=d.b;simp_all
 refine ⟨⟨h.st,by rw [a]; exact h.rep,by rw [a]; exact h.pre,?_,fun e=>by cases e⟩,a⟩;rw [a]; exact c
def NInv.dead (h:NInv n L) (g:m.c=n.c/\m.rp=n.rp/\m.vs=n.vs/\m.bn=n.bn/\m.nx=n.nx/\m.mt=n.mt) (i:m.d.OK) (j:DkI m.d L') (o:∀ r ∈ L',r.kind=3->1<=r.b) (e:m.d.down=true):NInv m L':=by
 obtain ⟨a,p,q,s,u,v⟩:=g;exact ⟨⟨i,by rw [a]; exact h.ok.many,by rw [a]; exact h.ok.me,by rw [a]; exact h.ok.log,by rw [a]; exact h.ok.term,by rw [a]; exact h.ok.com,by rw [a,q,s,u,v]; exact h.ok.len,by rw [a,p]; exact h.ok.rp⟩,j,o,fun f=>by rw [e] at f; cases f⟩
def SJ (h:NInv n L):StepR n L { n with d:=n.d.cM k } [] L:=by
 obtain ⟨a,c⟩:=h.d.cM (k:=k);exact ⟨h.dead ⟨rfl,rfl,rfl,rfl,rfl,rfl⟩ (uk h.ok.d) a h.le rfl,List.prefix_refl _,⟨rfl,rfl⟩,by dsimp only; rw [c]; omega,fun _ e=>(by cases e),fun _ f=>by cases f⟩
def abE (h:NInv n L):StepR n L { n with d:=⟨n.d.b,n.d.synced,n.d.down,true,k⟩ } [] L:=by
 have c:DkI ⟨n.d.b,n.d.synced,n.d.down,true,k⟩ L:=⟨h.d.st,h.d.rep,h.d.pre,h.d.syn,h.d.up⟩;exact ⟨⟨⟨h.ok.d,h.ok.many,h.ok.me,h.ok.log,h.ok.term,h.ok.com,h.ok.len,h.ok.rp⟩,c,h.le,fun a=>⟨(h.up a).st,(h.up a).bin,(h.up a).role,(h.up a).vote,(h.up a).nx,(h.up a).pl⟩⟩,List.prefix_refl _,⟨rfl,rfl⟩,by dsimp only; omega,fun _ e=>(by cases e),fun _ _=>⟨afz _,rfl,rfl⟩⟩
def acG (h:NInv n L):StepR n L n (cc n).1 L:=(StepR.refl h).tell fun _ a=>pw a
theorem wL {a b:Int} (h:b_ a b=0):1<=a/\a<=3/\1<=b/\b<=a:=by
 unfold b_ at h;grind
def Qf {s:Stable} {b:Int} (a:1<=b) (c:b<=3) (h:s.floor<b):stepsF s [⟨1,b,0,[]⟩]=({ s with floor:=b },0):=by
 have e:aG s ⟨1,b,0,[]⟩=({ s with floor:=b },0):=by
  refine ou (aix ⟨rfl,a,c,rfl,rfl⟩) ?_;rw [di,if_pos rfl,dD,if_neg (by dsimp only; omega)]
 rw [jX (by rw [e]),e]
theorem EU {b:Int} (h:NInv n L):∃ L',StepR n L (aY n b).n [] L':=by
 cases g:n.d.down;case false=>rw [afU g]; exact ⟨L,.refl h⟩
 by_cases v:b_ b (max (replayF n.d.b).1.floor 1)=0;case neg=>rw [Zp g v]; exact ⟨L,.refl h⟩
 obtain ⟨z,A,W,X⟩:=wL v;obtain ⟨B,Y,P⟩:=xk g h.ok.d;have e:=h.d.rep;obtain ⟨t,I⟩:=h.d.pre;have a:=mZ n.d.b
 have Q:n.d.b.take (replayF n.d.b).2.toNat=encL L:=by
  rw [e,I];dsimp only;rw [agl,List.take_left]
 have j:(n.fr b).d=⟨encL L,((encL L).length:Int),false,false,0⟩:=by
  show (if n.d.down=true then n.d.up else n.d).cut (replayF n.d.b).2=_;rw [P,Q,e]
 have o:DkI (n.fr b).d L:=by rw [j]; exact DkI.enc h.d.st rfl rfl
 have p:(n.fr b).c.st=(stepsF sta0 L).1:=by show (replayF n.d.b).1=_; rw [e]
 have C:NdOK (n.fr b):=⟨B,h.ok.many,h.ok.me,a.1.1,a.1.2,⟨afz 0,afz 0,Int.natCast_nonneg _⟩,.inl rfl,rfl⟩;have J:(n.fr b).d.b.length<=n.d.b.length:=by
  rw [j,I];show (encL L).length<=_;rw [List.length_append]; omega
 have D:okPl b ((replayF n.d.b).1.log.take 0)/\fr0=pS b fr0 ((replayF n.d.b).1.log.take 0)/\([]:List Reply)=pR b fr0 ((replayF n.d.b).1.log.take 0):=⟨fun x q=>(by cases q),rfl,rfl⟩;by_cases F:(replayF n.d.b).1.floor<b;case neg=>
  rw [abQ g v aK];exact ⟨L,⟨C,o,h.le,fun _=>⟨p,⟨z,A,by show (replayF n.d.b).1.floor=b; omega⟩,⟨afz 0,(by decide:(0:Int)<=2)⟩,fun hr=>absurd rfl hr,fun hr=>absurd (show (0:Int)=2 from hr) am,D⟩⟩,List.prefix_refl _,⟨rfl,rfl⟩,by show (n.fr b).d.b.length<=_; omega,fun _ q=>(by cases q),fun f=>by rw [g] at f; cases f⟩
 have G:(n.fr b).d.down=false:=by rw [j]
 have s:=Ey (l:=[⟨1,b,0,[]⟩]) o G p;have Z:=sm s aa;have w:∀ (i:Nat),∀ r ∈ L++[Record.mk 1 b 0 []].take i,r.kind=3->1<=r.b:=fun i r hr=>by
  rcases acf.1 hr with hr | hr
  ·exact h.le r hr
  grind
 by_cases y:(n.fr b).aQ [⟨1,b,0,[]⟩]=0
 ·rw [acn g v F y];obtain ⟨K,N,u,m,k5,k6,k7,k8⟩:=s.ok y;have H:((n.fr b).save [⟨1,b,0,[]⟩]).c.st={ (n.fr b).c.st with floor:=b }:=by
   show (saveF _ _ _).2.1=_;rw [u,Qf z A F]
  refine ⟨L++[⟨1,b,0,[]⟩],⟨⟨rz B,h.ok.many,h.ok.me,by rw [H]; exact a.1.1,by rw [H]; exact a.1.2,⟨afz 0,afz 0,Int.natCast_nonneg _⟩,.inl rfl,rfl⟩,N,fun r hr=>w 1 r hr,fun _=>⟨?_,⟨z,A,by rw [H]⟩,⟨afz 0,(by decide:(0:Int)<=2)⟩,fun hr=>absurd rfl hr,fun hr=>absurd (show (0:Int)=2 from hr) am,?_⟩⟩,List.prefix_append _ _,⟨rfl,rfl⟩,by show (saveF (n.fr b).d (n.fr b).c.st _).1.b.length<=_; omega,fun _ q=>(by cases q),fun f=>by rw [g] at f; cases f⟩
  ·show (saveF _ _ _).2.1=_;rw [u,dC h.d.st,<- p]
  grind
 rw [aaH g v F y];obtain ⟨K,N,u⟩:=s.no y;have O:((n.fr b).save [⟨1,b,0,[]⟩]).c=(n.fr b).c:=by rw [Nh,K]
 have S:∃ i,DkI ((n.fr b).save [⟨1,b,0,[]⟩]).d (L++[Record.mk 1 b 0 []].take i):=by
  rcases u with ⟨u,_⟩ | ⟨_,_,_,_,i,_,u⟩
  ·exact ⟨0,by rw [ak4,ads,Rf,u]; exact o⟩
  grind
 obtain ⟨i,T⟩:=S;obtain ⟨U,V⟩:=T.cM (k:=0);refine ⟨_,⟨⟨uk (rz B),h.ok.many,h.ok.me,by rw [O]; exact a.1.1,by rw [O]; exact a.1.2,⟨afz 0,afz 0,Int.natCast_nonneg _⟩,.inl rfl,rfl⟩,U,w i,fun f=>by cases f⟩,Br,⟨rfl,rfl⟩,?_,fun _ q=>(by cases q),fun f=>by rw [g] at f; cases f⟩;show (((n.fr b).save [⟨1,b,0,[]⟩]).d.cM 0).b.length<=_;rw [V];show (saveF (n.fr b).d (n.fr b).c.st _).1.b.length<=_;omega
structure ToldN where
 l:List Letter
 a:Int
 b:Int
 e:Int
def uV (x:Letter):Letter:={ x with l:=(x.l.take 6).map fun y=>⟨y.term,y.b.take 250⟩ }
def mf (c:Command):Command:={ c with chunks:=c.chunks.take 12,text:=⟨c.text.b.take 40⟩ }
def cj (n:Nd) (o:NOp):Nd × ToldN:=
 if o.kind.toNat % 8=0 then ((aY n o.n).n,⟨[],0,0,(aY n o.n).e⟩)
 else if o.kind.toNat % 8=1 then ((bq n).n,⟨(bq n).l,0,0,(bq n).e⟩)
 else if o.kind.toNat % 8=2 then (n,⟨(cc n).1,0,0,(cc n).2⟩)
 else if o.kind.toNat % 8=3 then ((bl n (uV o.x)).n,⟨(bl n (uV o.x)).l,0,0,(bl n (uV o.x)).e⟩)
 else if o.kind.toNat % 8=4 then ((dg n (mf o.c)).n,⟨[],(dg n (mf o.c)).a,(dg n (mf o.c)).b,(dg n (mf o.c)).e⟩)
 else if o.kind.toNat % 8=5 then ({ n with d:=⟨n.d.b,n.d.synced,n.d.down,true,o.n⟩ },⟨[],0,0,0⟩)
 else if o.kind.toNat % 8=6 then ({ n with d:=n.d.cM o.n },⟨[],0,0,0⟩)
 else (n,⟨[],0,0,0⟩)
def aaq {o:NOp} (h:NInv n L):∃ L',StepR n L (cj n o).1 (cj n o).2.l L':=by
 unfold cj;split
 ·exact EU h
 split
 ·exact It h
 split
 ·exact ⟨L,acG h⟩
 split
 ·exact Iu h
 split
 ·exact Zj h
 split
 ·exact ⟨L,abE h⟩
 split
 ·exact ⟨L,SJ h⟩
 exact ⟨L,.refl h⟩
def HS {me a:Int} (h:3<=a/\a<=5/\0<=me/\me<a):NInv (iv me a) []:=
 ⟨⟨⟨afz 0,afz 0,ahc _⟩,⟨h.1,h.2.1⟩,h.2.2,ahc _,⟨afz 0,(by decide:(0:Int)<=1048576)⟩,⟨afz 0,afz 0,Int.natCast_nonneg _⟩,.inl rfl,rfl⟩,⟨rfl,tu (L:=[]) rfl,⟨[],rfl⟩,rfl,fun _=>rfl⟩,fun r c=>(by cases c),fun d=>(by cases d)⟩
variable {k:Nat} {l:List Entry}
def aeb {y:Entry} (a:l[k]? = some y):(l.take k).map (fun z:Entry=>(⟨z.term,z.b.take 250⟩:Entry))++[Entry.mk y.term (y.b.take 250)]=(l.take (k+1)).map (fun z:Entry=>(⟨z.term,z.b.take 250⟩:Entry)):=by
 rw [ai a,List.map_append]; rfl
def aiU {y:Entry} (a:l[k]? = some y) (h:(y.b.length:Int)<=250):(l.take k).map (fun z:Entry=>(⟨z.term,z.b.take 250⟩:Entry))++[y]=(l.take (k+1)).map (fun z:Entry=>(⟨z.term,z.b.take 250⟩:Entry)):=by
 rw [<- aeb a,List.take_of_length_le (l:=y.b) aK]
def ai6 (a:k<=6) (h:(l.length:Int)<=k\/6<=(k:Int)):(l.take k).map (fun z:Entry=>(⟨z.term,z.b.take 250⟩:Entry))=(l.take 6).map (fun z:Entry=>(⟨z.term,z.b.take 250⟩:Entry)):=by
 by_cases e:k=6
 ·rw [e]
 rw [List.take_of_length_le aK,List.take_of_length_le aK]
def aeE:NInv (iv 0 3) []:=HS ⟨am,am,am,am⟩
abbrev sw1:NdR:=aY (iv 0 3) 1
abbrev sw2:=bq sw1.n
def ai0:NdOK sw1.n:=let ⟨_,h⟩:=EU (b:=1) aeE; h.inv.ok
def aib:(decide (sw1.e=0) && decide (sw2.e=0) && decide ((sw2.l.length:Int)=2) && decide ((sw2.l.getD 0 (ao (.nm .letter))).kind=1) && decide ((sw2.l.getD 1 (ao (.nm .letter))).to=2) && decide ((sw2.l.getD 0 (ao (.nm .letter))).term=1) && decide ((cr sw2.n).role=1))=true:=bN
def Jg (x:Letter):List (Nat × LI):=[(3,{ σ:=Nat,F:=fun k=>([(1,one (.ptr 0 0)),(2,one (.ptr 1 0)),(3,one (.own 2)),(4,one (.int k))],[.box 40 (cellsOf (.nm .letter) (x)),.box 40 (cellsOf (.nm .letter) (cK)),.row 52 (.nm .entry) (((x.l.take k).map (fun z:Entry=>(⟨z.term,z.b.take 250⟩:Entry))))]),J:=fun k=>k<=x.l.length/\k<=6,μ:=fun k=>6 - k })]
def tw:Kn:=aM (ae (kT (.nm .letter)) ak) av fun (x,_) _=>⟨[],[.agg (cellsOf (.nm .letter) (uV x))],none,false⟩
theorem Eh:CK 23 tw:=ag fun (x,_) _ _=>by
 refine aq kH (Jg x) Tryz.func23 (?_:(fun (g:Nat)=>(fun (h:Nat)=>(fun (e:Int)=>aS x (∃ (j:Nat),(e=(↑j:Int)/\iH x x (e=cK.kind/\e=cK.frm/\e=cK.to/\e=cK.term/\e=cK.a/\e=cK.b/\e=cK.c/\e=cK.bin/\false=cK.ok/\cK.l=[]/\List.map (fun (z:Entry)=>Entry.mk z.term (List.take h z.b)) (List.take j x.l)=[]))/\(j<=x.l.length/\j<=g)/\∀ (s:Nat),(fun (o:Int)=>(fun (i:List (den (Sh.nm NT.entry)))=>s<=x.l.length/\s<=g->((↑s:Int)<(↑x.l.length:Int)/\(↑s:Int)<6->e<=(↑s:Int)/\(↑s:Int)<(↑x.l.length:Int)/\∀ (d:Entry),x.l[s]? = some d->I64 d.term->d.b.length*1<=140737488355328->(250<(↑d.b.length:Int)->e<=250/\250<=(↑d.b.length:Int)/\(i.length+[Entry.mk d.term (List.take h d.b)].length)*32<=140737488355328/\I64 o/\∃ (f:Nat),(o=(↑f:Int)/\iH x x (iH cK cK (i++[Entry.mk d.term (List.take h d.b)]=List.map (fun (z:Entry)=>Entry.mk z.term (List.take h z.b)) (List.take f x.l))))/\(f <= x.l.length/\f <= g)/\g - f < g - s)/\((↑d.b.length:Int)<=250->(i.length+[d].length)*32<=140737488355328/\I64 o/\∃ (f:Nat),(o=(↑f:Int)/\iH x x (iH cK cK (i++[d]=List.map (fun (z:Entry)=>Entry.mk z.term (List.take h z.b)) (List.take f x.l))))/\(f <= x.l.length/\f <= g)/\g - f < g - s))/\((↑x.l.length:Int)<=(↑s:Int)\/6<=(↑s:Int)->za (Letter.mk x.kind x.frm x.to x.term x.a x.b x.c x.bin x.ok i) (uV x))) (List.map (fun (z:Entry)=>Entry.mk z.term (List.take h z.b)) (List.take s x.l))) ((↑s:Int)+1))) 0) 250) 6);iterate 3 ((all_goals (repeat' with_reducible first|apply bc|refine ba ?_|intro)); (all_goals try (first | exact bm | exact rfl | exact (aeb ab) | exact (aiU ab ab) | exact (ai6 aK ab) | (simp only [List.length_map,List.length_take,List.length_cons,List.length_nil]; omega))); all_goals try first | refine ⟨‹Nat› + 1,?_⟩ | refine ⟨0,?_⟩)
def Fi:Kn:=aM (ae (kT (.nm .command)) ak) av fun (c,_) _=>⟨[],[.agg (cellsOf (.nm .command) (mf c))],none,false⟩
def Vt:CK 32 Fi:=ag fun (c,_) _ _=>by
 refine aq kH [] Tryz.func32 (?_:(fun e=>(fun a=>(fun d=>bH c (((12:Int)<e->(0:Int)<=(12:Int)/\(12:Int)<=e/\(a<d->(0:Int)<=a/\a<=d/\aR (Command.mk c.kind c.client c.seq c.set c.id c.n (List.take (12:Nat) c.chunks) (Str.mk (List.take (40:Nat) c.text.b))) (mf c))/\(d<=a->aR (Command.mk c.kind c.client c.seq c.set c.id c.n (List.take (12:Nat) c.chunks) c.text) (mf c)))/\(e<=(12:Int)->(a<d->(0:Int)<=a/\a<=d/\aR (Command.mk c.kind c.client c.seq c.set c.id c.n c.chunks (Str.mk (List.take (40:Nat) c.text.b))) (mf c))/\(d<=a->aR c (mf c))))) (↑c.text.b.length:Int)) (40:Int)) (↑c.chunks.length:Int));(repeat' with_reducible first|apply bc|refine ba ?_|intro)
 all_goals (first | exact bm | exact rfl | (dsimp only [mf]; first | exact (List.take_of_length_le aK).symm | exact Qp aK))
def Gt:Kn:=aM (ae (kC (cL (.nm .nop))) ak) av fun (l,_) _=>⟨[],[.c (.fz (.nm .nop) ((l.take 40)))],none,false⟩
def Tl:CK 18 Gt:=ag fun (l,_) _ _=>by
 refine aq kH [] Tryz.func18 (?_:l.length*(200:Nat)<=(140737488355328:Nat)->((40:Int)<(↑l.length:Int)->(0:Int)<=(40:Int)/\(40:Int)<=(↑l.length:Int)/\List.take (40:Nat) l=List.take (40:Nat) l)/\((↑l.length:Int)<=(40:Int)->l=List.take (40:Nat) l));(repeat' with_reducible first|apply bc|refine ba ?_|intro)
 all_goals (first | exact bm | exact rfl | exact (List.take_of_length_le aK).symm)
def wM:Kn:=aM ak av fun _ _=>⟨[],[.c (.bool (.atom ((true))))],none,false⟩
theorem JD:CK 11 wM:=ag fun _ _ _=>by
 refine aq kH [] Tryz.func11 (?_:(fun v=>(fun q=>(fun z=>(fun o=>(fun B=>(fun C=>(fun g=>(fun w=>(fun A=>(fun p=>(fun j=>(fun r=>(fun h=>(fun i=>(fun f=>(fun d=>(fun y=>(fun s=>(fun u=>(v<=v/\v<=5/\g<=g/\g<v)/\(I64 g->(false=true\/¬g=g->false=true)/\(false=false/\g=g->NdOK (iv g v)/\(I64 w.e->NdOK w.n/\(p.l.length*96<=q->I64 p.e->(r->g<=g/\g<j)/\((r->y)->(s->g<=o/\o<j)/\((s->I64 f.kind/\I64 f.frm/\I64 f.to/\I64 f.term/\I64 f.a/\I64 f.b/\I64 f.c/\I64 f.bin/\f.l.length*32<=q)->(u->g<=g/\g<j)/\((u->y)->(u/\d.term=o->I64 h.role/\I64 h.binary/\I64 h.floor/\I64 h.term/\I64 h.vote/\I64 h.commit/\I64 h.applied/\h.log.length*32<=q/\I64 i.version/\I64 i.next/\I64 i.keep/\I64 i.quota/\i.sess.length*32<=q/\i.opens.length*16<=q/\i.snaps.length*64<=q)->(decide (w.e=g) && decide (p.e=g) && decide (j=z) && decide (d.kind=o) && decide (f.to=z) && decide (d.term=o) && decide (h.role=o))=true)))))))) (s/\f.to=z)) (r/\d.kind=o)) (I64 d.kind/\I64 d.frm/\I64 d.to/\I64 d.term/\I64 d.a/\I64 d.b/\I64 d.c/\I64 d.bin/\d.l.length*32<=q)) (p.l.getD C A)) (p.l.getD B A)) h.state) (cr p.n)) ((w.e=g/\p.e=g)/\j=z)) (↑p.l.length:Int)) (bq w.n)) (ao (Sh.nm NT.letter))) (aY (iv g v) o)) (0:Int)) (0:Nat)) (1:Nat)) (1:Int)) (2:Int)) (140737488355328:Nat)) (3:Int));(repeat' with_reducible first|apply bc|refine ba ?_|intro)
 all_goals (first | exact bm | exact rfl | exact aeE.ok | exact ai0 | exact aib | (simp_all; done))
def Xd:bF:=(aP 11 wM (aP 18 Gt (aP 32 Fi (aP 23 tw Xl))))
def yW:aw Tryz.prog (aj tyT) Xd:=(ah JD (ah Tl (ah Vt (ah Eh kH))))
section
variable {n:Nd} {o:NOp} {k:UInt8}
def o7:(k &&& UInt8.ofNat 7).toNat=k.toNat % 8:=by
 rw [UInt8.toNat_and]; exact Nat.and_two_pow_sub_one_eq_mod k.toNat 3
variable {i:Nat}
def Ea (h:((k &&& UInt8.ofNat 7).toNat:Int)=((UInt8.ofNat i).toNat:Int)) (a:i<8):k.toNat % 8=i:=by
 rw [o7,show (UInt8.ofNat i).toNat=i by rw [UInt8.toNat_ofNat']; omega] at h; omega
theorem Ep (h:¬((k &&& UInt8.ofNat 7).toNat:Int)=((UInt8.ofNat i).toNat:Int)) (a:i<8):¬k.toNat % 8=i:=by
 rw [o7,show (UInt8.ofNat i).toNat=i by rw [UInt8.toNat_ofNat']; omega] at h; omega
def agh (h:((o.kind &&& UInt8.ofNat 7).toNat:Int)=((UInt8.ofNat 0).toNat:Int)):cj n o=((aY n o.n).n,⟨[],0,0,(aY n o.n).e⟩):=by
 have e:=Ea h am; simp [cj,e]
def aiK (h:((o.kind &&& UInt8.ofNat 7).toNat:Int)=((UInt8.ofNat 1).toNat:Int)):cj n o=((bq n).n,⟨(bq n).l,0,0,(bq n).e⟩):=by
 have e:=Ea h am; simp [cj,e]
def ajI (h:((o.kind &&& UInt8.ofNat 7).toNat:Int)=((UInt8.ofNat 2).toNat:Int)):cj n o=(n,⟨(cc n).1,0,0,(cc n).2⟩):=by
 have e:=Ea h am; simp [cj,e]
def ajY (h:((o.kind &&& UInt8.ofNat 7).toNat:Int)=((UInt8.ofNat 3).toNat:Int)):cj n o=((bl n (uV o.x)).n,⟨(bl n (uV o.x)).l,0,0,(bl n (uV o.x)).e⟩):=by
 have e:=Ea h am; simp [cj,e]
def aiR (h:((o.kind &&& UInt8.ofNat 7).toNat:Int)=((UInt8.ofNat 4).toNat:Int)):cj n o=((dg n (mf o.c)).n,⟨[],(dg n (mf o.c)).a,(dg n (mf o.c)).b,(dg n (mf o.c)).e⟩):=by
 have e:=Ea h am; simp [cj,e]
def aiT (h:((o.kind &&& UInt8.ofNat 7).toNat:Int)=((UInt8.ofNat 5).toNat:Int)):cj n o=({ n with d:=⟨n.d.b,n.d.synced,n.d.down,true,o.n⟩ },⟨[],0,0,0⟩):=by
 have e:=Ea h am; simp [cj,e]
def ahA (h:((o.kind &&& UInt8.ofNat 7).toNat:Int)=((UInt8.ofNat 6).toNat:Int)):cj n o=({ n with d:=n.d.cM o.n },⟨[],0,0,0⟩):=by
 have e:=Ea h am; simp [cj,e]
def ajb (a:¬((o.kind &&& UInt8.ofNat 7).toNat:Int)=((UInt8.ofNat 0).toNat:Int)) (c:¬((o.kind &&& UInt8.ofNat 7).toNat:Int)=((UInt8.ofNat 1).toNat:Int)) (d:¬((o.kind &&& UInt8.ofNat 7).toNat:Int)=((UInt8.ofNat 2).toNat:Int)) (e:¬((o.kind &&& UInt8.ofNat 7).toNat:Int)=((UInt8.ofNat 3).toNat:Int)) (f:¬((o.kind &&& UInt8.ofNat 7).toNat:Int)=((UInt8.ofNat 4).toNat:Int)) (g:¬((o.kind &&& UInt8.ofNat 7).toNat:Int)=((UInt8.ofNat 5).toNat:Int)) (h:¬((o.kind &&& UInt8.ofNat 7).toNat:Int)=((UInt8.ofNat 6).toNat:Int)):cj n o=(n,⟨[],0,0,0⟩):=by
 simp [cj,Ep a am,Ep c am,Ep d am,Ep e am,Ep f am,Ep g am,Ep h am]
end
def zQ:Kn:=aM (ae (kC (aZ 0 0)) (ae (kT (.nm .nop)) ak)) rM fun (_,o,_) n=>⟨[NdOK n],[.agg ([.fz (.nm .letter) (((cj n o).2.l)),.int (((cj n o).2.a)),.int (((cj n o).2.b)),.int (((cj n o).2.e))])],some ((mh ((cj n o).1))),false⟩
def Ob:CK 19 zQ:=ag fun (_,o,_) n y=>by
 have w:=cg y;refine bw yW [] Tryz.func19 (?_:(fun s=>(fun u=>(fun i=>(fun j=>(fun p=>(fun f=>(fun v=>(fun q=>(fun r=>(fun g=>NN o ((g=(↑(UInt8.ofNat 0).toNat:Int)->NdOK n/\(I64 (aY n o.n).e->v/\r/\q/\(aY n o.n).e=f.e/\bV (aY n o.n).n i))/\(¬g=(↑(UInt8.ofNat 0).toNat:Int)->(g=(↑(UInt8.ofNat 1).toNat:Int)->NdOK n/\(s.l.length*96<=140737488355328->I64 s.e->s.l=f.l/\r/\q/\s.e=f.e/\bV s.n i))/\(¬g=(↑(UInt8.ofNat 1).toNat:Int)->(g=(↑(UInt8.ofNat 2).toNat:Int)->n.c.many<=5/\(n.c.role=p\/(↑n.nx.length:Int)=n.c.many)/\((cc n).fst.length*96<=140737488355328->I64 (cc n).snd->(cc n).fst=f.l/\r/\q/\(cc n).snd=f.e/\bV n i))/\(¬g=(↑(UInt8.ofNat 2).toNat:Int)->(g=(↑(UInt8.ofNat 3).toNat:Int)->aS (uV o.x) (NdOK n/\(u.l.length*96<=140737488355328->I64 u.e->u.l=f.l/\r/\q/\u.e=f.e/\bV u.n i)))/\(¬g=(↑(UInt8.ofNat 3).toNat:Int)->(g=(↑(UInt8.ofNat 4).toNat:Int)->bH (mf o.c) (NdOK n/\(I64 j.a->I64 j.b->I64 j.e->v/\j.a=f.a/\j.b=f.b/\j.e=f.e/\bV j.n i)))/\(¬g=(↑(UInt8.ofNat 4).toNat:Int)->(g=(↑(UInt8.ofNat 5).toNat:Int)->v/\r/\q/\p=f.e/\bV (Nd.mk n.c (Dsk.mk n.d.b n.d.synced n.d.down true o.n) n.rp n.vs n.bn n.nx n.mt) i)/\(¬g=(↑(UInt8.ofNat 5).toNat:Int)->(g=(↑(UInt8.ofNat 6).toNat:Int)->(p<=n.d.synced/\n.d.synced<=(↑n.d.b.length:Int)/\n.d.b.length<=65536)/\v/\r/\q/\p=f.e/\bV (Nd.mk n.c (n.d.cM o.n) n.rp n.vs n.bn n.nx n.mt) i)/\(¬g=(↑(UInt8.ofNat 6).toNat:Int)->v/\r/\q/\p=f.e/\bV n i))))))))) (↑(o.kind &&& UInt8.ofNat 7).toNat:Int)) (p=f.a)) (p=f.b)) (f.l=[])) (cj n o).snd) (0:Int)) (dg n (mf o.c))) (cj n o).fst) (bl n (uV o.x))) (bq n));obtain ⟨z,A,B⟩:=id w.d;(repeat' with_reducible first|apply bc|refine ba ?_|intro)
 all_goals (first | exact bm | exact w | exact w.many.2 | exact (w.len.imp_right fun h=>h.2.2.1) | (rw [agh (n:=n) (o:=o) ab] <;> rfl) | (rw [aiK (n:=n) (o:=o) ab] <;> rfl) | (rw [ajI (n:=n) (o:=o) ab] <;> rfl) | (rw [ajY (n:=n) (o:=o) ab] <;> rfl) | (rw [aiR (n:=n) (o:=o) ab] <;> rfl) | (rw [aiT (n:=n) (o:=o) ab] <;> rfl) | (rw [ahA (n:=n) (o:=o) ab] <;> rfl) | (rw [ajb (n:=n) (o:=o) ab ab ab ab ab ab ab] <;> rfl))
def Yp:bF:=(aP 19 zQ Xd)
def Au:aw Tryz.prog (aj tyT) Yp:=(ah Ob yW)
def afN {x y:Entry} (h:x.term=y.term) (a:Str.mk x.b=Str.mk y.b):x=y:=by
 cases x; cases y; simp only [Str.mk.injEq] at *; subst h; subst a; rfl
section
variable {a b:List Entry} {k:Nat} {d:Entry}
def ahR (h:a.take k=b.take k) (c:k<a.length) (g:a.length=b.length) (e:(a.getD k d).term=(b.getD k d).term) (f:Str.mk (a.getD k d).b=Str.mk (b.getD k d).b):a.take (k+1)=b.take (k+1):=ad5 h c aK (afN e f)
def aiM (e:¬(a.getD k d).term=(b.getD k d).term\/¬Str.mk (a.getD k d).b=Str.mk (b.getD k d).b):false=decide (a=b):=(akN (by rintro rfl; simp at e)).symm
variable {α:Type}
def ag5 [DecidableEq α] {a b:List α} (h:a.take k=b.take k) (c:a.length<=k) (e:a.length=b.length):true=decide (a=b):=by
 rw [List.take_of_length_le c,List.take_of_length_le aK] at h; exact (decide_eq_true h).symm
def ajA [DecidableEq α] {a b:List α} (h:¬(a.length:Int)=b.length):false=decide (a=b):=(akN (by rintro rfl; exact h rfl)).symm
end
def KO (a:List Entry) (b:List Entry):List (Nat × LI):=[(4,{ σ:=Nat,F:=fun k=>([(0,one (.fz (.nm .entry) (a))),(1,one (.fz (.nm .entry) (b))),(5,one (.int k))],[]),J:=fun k=>k<=a.length/\a.length=b.length/\a.take k=b.take k,μ:=fun k=>a.length - k })]
def wR:Kn:=aM (ae (kC (cL (.nm .entry))) (ae (kC (cL (.nm .entry))) ak)) av fun (a,b,_) _=>⟨[],[.c (.bool (.atom ((decide (a=b)))))],none,false⟩
theorem Io:CK 22 wR:=ag fun (a,b,_) _ _=>by
 refine aq Au (KO a b) Tryz.func22 (?_:(fun (p:Int)=>(fun (q:Nat)=>(fun (d:Nat)=>(fun (e:Int)=>(fun (v:den (Sh.nm NT.entry))=>a.length*32<=q->b.length*32<=q->(¬e=p->false=decide (a=b))/\(e=p->∃ (r:Nat),(a=a/\b=b/\0=(↑r:Int))/\(r<=d/\d=b.length/\List.take r a=List.take r b)/\∀ (s:Nat),(fun (c:Int)=>(fun (f:den (Sh.nm NT.entry))=>(fun (i:Prop)=>(fun (g:den (Sh.nm NT.entry))=>(fun (j:Prop)=>(fun (u:Prop)=>(fun (h:Prop)=>s<=d/\d=b.length/\List.take s a=List.take s b->(c<e->u/\c<e/\u/\c<p/\(h->u/\c<e)/\(h->u/\c<p)/\(I64 g.term->j->I64 f.term->i->(h->I64 g.term/\j)->(h->I64 f.term/\i)->(¬h\/¬Str.mk g.b=Str.mk f.b->false=decide (a=b))/\(h/\Str.mk g.b=Str.mk f.b->I64 (c+1)/\∃ (o:Nat),(a=a/\b=b/\c+1=(↑o:Int))/\(o <= d/\d=b.length/\List.take o a=List.take o b)/\d - o < d - s)))/\(e<=c->true=decide (a=b))) (g.term=f.term)) (0<=c)) (g.b.length*1<=q)) (a.getD s v)) (f.b.length*1<=q)) (b.getD s v)) (↑s:Int))) (ao (Sh.nm NT.entry))) (↑a.length:Int)) a.length) 140737488355328) (↑b.length:Int));iterate 3 ((all_goals (repeat' with_reducible first|apply bc|refine ba ?_|intro)); (all_goals try (first | exact bm | exact rfl | exact (ajA ab) | exact (ahR ab aK ab ab ab) | exact (aiM ab) | exact (ag5 ab aK ab))); all_goals try first | refine ⟨‹Nat› + 1,?_⟩ | refine ⟨0,?_⟩)
def XI:bF:=(aP 22 wR Yp)
def ME:aw Tryz.prog (aj tyT) XI:=(ah Io Au)
section
variable {a b:List Letter} {k:Nat} {d:Letter}
end
def WK:bF:=XI
def OT:aw Tryz.prog (aj tyT) WK:=ME
def Xk:bF:=WK
def AB:aw Tryz.prog (aj tyT) Xk:=OT
def ae6 (s:Nat) (b:List UInt8):List (Nat × LI):=[(4,{ σ:=Nat,F:=fun k=>([(1,one (.fz .u8 (b))),(5,one (.xx (.w ((fH (s % 65536 % 65521,s / 65536 % 65521) (b.take k)).1)) [])),(6,one (.xx (.w ((fH (s % 65536 % 65521,s / 65536 % 65521) (b.take k)).2)) [])),(7,one (.int k))],[]),J:=fun k=>k<=b.length,μ:=fun k=>b.length - k })]
def Lq:Kn:=aM (ae (kC cW) (ae (kC (cL .u8)) ak)) av fun (s,b,_) _=>⟨[],[.c (.xx (.w ((cz s b))) [])],none,false⟩
theorem Ze:CK 267 Lq:=ag fun (s,b,_) _ _=>by
 refine aq AB (ae6 s b) Tryz.func267 (?_:(fun e=>(fun d=>(fun c=>(fun f=>b.length*1<=140737488355328->e<d/\e<c/\e<d/\e<c/\∃ h,(b=b/\s % d % c=(fH f (List.take h b)).fst/\s / d % c=(fH f (List.take h b)).snd/\0=(↑h:Int))/\h<=b.length/\∀ (a:Nat),(fun i=>a<=b.length->((↑a:Int)<(↑b.length:Int)->0<=(↑a:Int)/\(↑a:Int)<(↑b.length:Int)/\∀ (x:UInt8),(fun j=>b[a]? = some x->e<c/\e<c/\I64 ((↑a:Int)+1)/\∃ g,(b=b/\j=(fH f (List.take g b)).fst/\(i.snd+j) % 4294967296 % c=(fH f (List.take g b)).snd/\(↑a:Int)+1=(↑g:Int))/\g <= b.length/\b.length - g < b.length - a) ((i.fst+x.toNat) % 4294967296 % c))/\((↑b.length:Int)<=(↑a:Int)->(d*i.snd % 4294967296+i.fst) % 4294967296=cz s b)) (fH f (List.take a b))) (s % d % c,s / d % c)) (65521:Nat)) (65536:Nat)) (0:Nat));(repeat' with_reducible first|apply bc|refine ba ?_|intro)
 all_goals try ( refine ⟨0,?_⟩; (repeat' with_reducible first|apply bc|refine ba ?_|intro))
 all_goals try ( refine ⟨‹Nat› + 1,?_⟩; (repeat' with_reducible first|apply bc|refine ba ?_|intro))
 all_goals (first | exact bm | exact rfl | exact (Lg ab) | exact (OX ab) | exact (Nc ab))
def W_:bF:=(aP 267 Lq Xk)
def sw:aw Tryz.prog (aj tyT) W_:=(ah Ze AB)
def HY:Kn:=aM (ae (kC (cL .u8)) ak) av fun (b,_) _=>⟨[],[.c (.xx (.w ((cz 1 b))) [])],none,false⟩
def Wi:CK 229 HY:=ag fun (b,_) _ _=>by
 refine aq sw [] Tryz.func229 (?_:b.length*1<=140737488355328->cz 1 b=cz 1 b);intros; rfl
def Ms:Kn:=aM (ae (kC cI) (ae (kC cI) (ae (kC cI) ak))) av fun (x,lo,a,_) _=>⟨[],[.c (.bool (.atom ((decide (lo<=x) && decide (x<=a)))))],none,false⟩
theorem ab5:CK 176 Ms:=ag fun (x,lo,a,_) _ _=>by
 refine aq sw [] Tryz.func176 (?_:(fun c=>I64 x->I64 lo->I64 a->c=c) (decide (lo<=x) && decide (x<=a)));(repeat' with_reducible first|apply bc|refine ba ?_|intro) <;> first | (first | with_reducible rfl | with_reducible assumption | omega | (refine bz ?_ ?_ <;> omega)) | grind
def XS:bF:=(aP 176 Ms (aP 229 HY W_))
def Be:aw Tryz.prog (aj tyT) XS:=(ah ab5 (ah Wi sw))
theorem aja {x:List UInt8}:[C_ (Int.tdiv (x.length:Int) 256),C_ (Int.tmod (x.length:Int) 256)]++x=fJ x:=by
 have a:Int.tdiv (x.length:Int) 256=((x.length / 256:Nat):Int):=(Int.ofNat_tdiv _ _).symm;have c:Int.tmod (x.length:Int) 256=((x.length % 256:Nat):Int):=(Int.ofNat_tmod _ _).symm;have d:UInt8.ofNat (x.length % 256)=UInt8.ofNat x.length:=by apply UInt8.toNat.inj; simp
 rw [a,c,qY,qY,d,fJ]
def IJ {x:List UInt8}:(fJ x).length=x.length+2:=by simp [fJ]
def Af:Kn:=aM (ae (kC (cL .u8)) ak) av fun (x,_) _=>⟨[],[.c (.fz .u8 (((fS x).1))),.c (.int (((fS x).2)))],none,false⟩
theorem R_:CK 174 Af:=ag fun (x,_) _ _=>by
 refine aq (xC Be) [] Tryz.func174 (?_:(fun g=>(fun f=>(fun c=>(fun d=>(fun a=>(fun h=>(fun e=>(fun i=>x.length*d<=140737488355328->(a=c\/4096<a->(fS x).fst=[]/\4=(fS x).snd)/\(¬a=c/\a<=4096->c<=a/\c<f/\c<=a/\c<f/\(h.length+x.length)*d<=140737488355328/\24<32/\16<32/\8<32/\(e.length+i.length)*d<=140737488355328/\e++i=(fS x).fst/\c=(fS x).snd)) [UInt8.ofNat (cz d e / g ^ 24),UInt8.ofNat (cz d e / g ^ 16),UInt8.ofNat (cz d e / g ^ 8),UInt8.ofNat (cz d e)]) (h++x)) [C_ (a.tdiv f),C_ (a.tmod f)]) (↑x.length:Int)) (1:Nat)) (0:Int)) (256:Int)) (2:Nat));(repeat' with_reducible first|apply bc|refine ba ?_|intro)
 all_goals first | exact bm | (simp only [aja,fS,ek,py,akz] at *; have:=IJ (x:=x); grind)
def Yx:bF:=(aP 174 Af XS)
def Ce:aw Tryz.prog (aj tyT) Yx:=(ah R_ Be)
def uw:bD b=256*((b.getD 0 (ao .u8):UInt8).toNat:Int)+((b.getD 1 (ao .u8):UInt8).toNat:Int):=by
 have a:((b.getD 0 (ao .u8):UInt8).toNat:Int)*2 ^ 8=(((b.getD 0 (ao .u8):UInt8).toNat*256:Nat):Int):=by omega
 rw [bD,a,TA,agl,agl,mz (UInt8.toNat_lt _)];omega
def Pb {l:List UInt8} (h:l.length=4):py (yQ l)=l:=by
 obtain ⟨a,l,rfl⟩:=ag1 h;obtain ⟨b,l,rfl⟩:=ag1 (ai7 h);obtain ⟨c,l,rfl⟩:=ag1 (ai7 (ai7 h));obtain ⟨d,l,rfl⟩:=ag1 (ai7 (ai7 (ai7 h)));obtain rfl:=abL (ai7 (ai7 (ai7 (ai7 h))));have f:=a.toNat_lt; have g:=b.toNat_lt; have i:=c.toNat_lt; have j:=d.toNat_lt;have e:yQ [a,b,c,d]=((a.toNat*256+b.toNat)*256+c.toNat)*256+d.toNat:=by
  simp only [yQ,List.foldl_cons,List.foldl_nil];rw [show (0*256) % 4294967296=0*256 from rfl,mz (a:=0) f,akM,ac0,Nat.mod_eq_of_lt (a:=a.toNat*256) aK,mz g,Nat.mod_eq_of_lt (a:=(a.toNat*256+b.toNat)*256) aK,mz i,Nat.mod_eq_of_lt aK,mz j]
 rw [e,py];have k:∀ (x:UInt8) (n:Nat),n % 256=x.toNat->UInt8.ofNat n=x:=fun x n h=>UInt8.toNat.inj (by rw [ofNat_toNat,h]);rw [k a _ aK,k b _ aK,k c _ aK,k d _ aK]
section
variable {b:List UInt8}
def aeR (a:¬(b.length:Int)<2) (g:bD b+6<=(b.length:Int)):fJ ((b.drop 2).take (bD b).toNat)=b.take (bD b+2).toNat:=by
 obtain ⟨x,l,rfl⟩:=List.exists_cons_of_ne_nil (l:=b) (by rintro rfl; simp at a);obtain ⟨y,l,rfl⟩:=List.exists_cons_of_ne_nil (l:=l) (by rintro rfl; simp at a);have e:bD (x :: y :: l)=256*(x.toNat:Int)+(y.toNat:Int):=uw;have i:=x.toNat_lt; have j:=y.toNat_lt;have o:((x :: y :: l).length:Int)=l.length+2:=by simp; omega
 have c:(bD (x :: y :: l)).toNat=256*x.toNat+y.toNat:=by omega
 have d:(bD (x :: y :: l)+2).toNat=256*x.toNat+y.toNat+2:=by omega
 have k:∀ (x:UInt8) (n:Nat),n % 256=x.toNat->UInt8.ofNat n=x:=fun x n h=>UInt8.toNat.inj (by rw [ofNat_toNat,h]);rw [fJ,c,d];have f:(((x :: y :: l).drop 2).take (256*x.toNat+y.toNat)).length=256*x.toNat+y.toNat:=by
  rw [List.length_take,List.length_drop]; omega
 rw [f,k x _ aK,k y _ aK];rfl
def XO (a:¬(b.length:Int)<2) (i:¬bD b=0) (j:¬bD b > 4096) (c:bD b+6<=(b.length:Int)):az b=if (fS ((b.drop 2).take (bD b).toNat)).1=b.take (bD b+6).toNat then ((b.drop 2).take (bD b).toNat,bD b+6,0) else ([],0,3):=by
 have o:=oy b;have p:((b.drop 2).take (bD b).toNat).length=(bD b).toNat:=by rw [List.length_take,List.length_drop]; omega
 have d:(2+bD b)=bD b+2:=by omega
 have e:b.take (bD b+6).toNat=b.take (bD b+2).toNat++(b.drop (bD b+2).toNat).take 4:=by
  rw [show (bD b+6).toNat=(bD b+2).toNat+4 by omega,List.take_add]
 have f:((b.drop (bD b+2).toNat).take 4).length=4:=by rw [List.length_take,List.length_drop]; omega
 have g:(fS ((b.drop 2).take (bD b).toNat)).1=b.take (bD b+2).toNat++py (cz 1 (b.take (bD b+2).toNat)):=by
  rw [fS,if_neg aK,ek,aeR a c]
 rw [g,az,if_neg aK,if_neg aK,if_neg aK,e,d,show (bD b+2).toNat - 2=(bD b).toNat by omega,show bD b+2+4=bD b+6 by omega];by_cases h:cz 1 (b.take (bD b+2).toNat)=yQ ((b.drop (bD b+2).toNat).take 4)
 ·rw [if_pos h,if_pos (by rw [h,Pb f])]
 rw [if_neg h,if_neg];intro q;have:=List.append_cancel_left q;exact h (by rw [<- this,FX (CR _)])
abbrev ur (b:List UInt8):Int:=256*((b.getD 0 (ao .u8):UInt8).toNat:Int)+((b.getD 1 (ao .u8):UInt8).toNat:Int)
abbrev Jw (b:List UInt8):List UInt8:=(b.drop 2).take ((ur b+2).toNat - 2)
def Gn (h:(b.length:Int)<2):([],0,2)=az b:=by rw [az,if_pos aK]
def HB (a:(2:Int)<=b.length) (h:ur b=0\/4096<ur b):([],0,3)=az b:=by
 rw [ur,<- uw] at h; rw [az,if_neg aK,if_pos aK]
def FC (c:(2:Int)<=b.length) (g:¬ur b=0) (h:ur b<=4096) (a:(b.length:Int)<ur b+6):([],0,2)=az b:=by
 rw [ur,<- uw] at g h a; rw [az,if_neg aK,if_neg aK,if_pos aK]
def Hw (c:(2:Int)<=b.length) (g:¬ur b=0) (h:ur b<=4096) (a:ur b+6<=(b.length:Int)) (e:¬Str.mk (fS (Jw b)).1=Str.mk (b.take (ur b+6).toNat)):([],0,3)=az b:=by
 have d:=oy b;rw [Jw,ur,<- uw] at e; rw [ur,<- uw] at g h a;rw [XO aK g aK a,if_neg];rw [show (bD b+2).toNat - 2=(bD b).toNat by omega] at e;exact fun q=>e (congrArg Str.mk q)
def No (c:(2:Int)<=b.length) (g:¬ur b=0) (h:ur b<=4096) (a:ur b+6<=(b.length:Int)) (e:Str.mk (fS (Jw b)).1=Str.mk (b.take (ur b+6).toNat)):(Jw b,ur b+6,0)=az b:=by
 have d:=oy b;rw [Jw,ur,<- uw] at e ⊢; rw [ur,<- uw] at g h a;rw [show (bD b+2).toNat - 2=(bD b).toNat by omega] at e ⊢;rw [XO aK g aK a,if_pos (Str.mk.inj e)]
def acL (g:¬ur b=0) (h:ur b<=4096):(Jw b).length*1<=140737488355328:=by rw [Jw,List.length_take]; omega
end
def xb:Kn:=aM (ae (kC (cL .u8)) ak) av fun (b,_) _=>⟨[],[.c (.fz .u8 (((az b).1))),.c (.int (((az b).2.1))),.c (.int (((az b).2.2)))],none,false⟩
def IU:CK 109 xb:=ag fun (b,_) _ _=>by
 refine aq Ce [] Tryz.func109 (?_:(fun o=>(fun p=>(fun h=>(fun u=>(fun r=>(fun c=>(fun g=>(fun s=>(fun f=>(fun i=>(fun e=>(fun a=>(fun d=>(fun j=>b.length*1<=140737488355328->(g<f->i)/\(f<=g->c<=c/\c<g/\I64 p/\c<=1/\1<g/\I64 e/\(e=c\/4096<e->s)/\(¬e=c/\e<=4096->I64 a/\(g<a->i)/\(a<=g->I64 (e+f)/\c<=f/\f<=e+f/\e+f<=g/\d.length*1<=140737488355328/\((fS d).fst.length*1<=140737488355328->I64 (fS d).snd->I64 a/\c<=a/\a<=g/\(¬j->s)/\(j->I64 a/\d=(az b).fst/\a=h.fst/\c=h.snd)))))) (Str.mk (fS d).fst=Str.mk (List.take a.toNat b))) (List.take ((e+f).toNat - r) (List.drop r b))) (e+u)) (p+(↑(UInt8.toNat (b.getD 1 (ao Sh.u8))):Int))) (o/\c=h.fst/\f=h.snd)) (2:Int)) (o/\c=h.fst/\3=h.snd)) (↑b.length:Int)) (0:Int)) (2:Nat)) (6:Int)) (az b).snd) (256*(↑(UInt8.toNat (b.getD 0 (ao Sh.u8))):Int))) ((az b).fst=[]));have v:=(b.getD 0 (ao .u8):UInt8).toNat_lt;have w:=(b.getD 1 (ao .u8):UInt8).toNat_lt;(repeat' with_reducible first|apply bc|refine ba ?_|intro)
 all_goals (first | exact bm | exact (congrArg Prod.fst (Gn ab)) | exact (congrArg (fun q=>q.2.1) (Gn ab)) | exact (congrArg (fun q=>q.2.2) (Gn ab)) | exact (congrArg Prod.fst (HB ab ab)) | exact (congrArg (fun q=>q.2.1) (HB ab ab)) | exact (congrArg (fun q=>q.2.2) (HB ab ab)) | exact (congrArg Prod.fst (FC ab ab ab ab)) | exact (congrArg (fun q=>q.2.1) (FC ab ab ab ab)) | exact (congrArg (fun q=>q.2.2) (FC ab ab ab ab)) | exact (congrArg Prod.fst (Hw ab ab ab ab ab)) | exact (congrArg (fun q=>q.2.1) (Hw ab ab ab ab ab)) | exact (congrArg (fun q=>q.2.2) (Hw ab ab ab ab ab)) | exact (congrArg Prod.fst (No ab ab ab ab ab)) | exact (congrArg (fun q=>q.2.1) (No ab ab ab ab ab)) | exact (congrArg (fun q=>q.2.2) (No ab ab ab ab ab)) | exact (congrArg Prod.fst (Gn ab)).symm | exact (congrArg Prod.fst (HB ab ab)).symm | exact (congrArg Prod.fst (FC ab ab ab ab)).symm | exact (congrArg Prod.fst (Hw ab ab ab ab ab)).symm | exact (acL ab ab))
def YY:bF:=(aP 109 xb Yx)
def AA:aw Tryz.prog (aj tyT) YY:=(ah IU Ce)
def ZL:Nat->List UInt8->List (List UInt8)
 | 0,_=>[]
 | n+1,b=>if (az b).2.2=0 then (az b).1 :: ZL n (b.drop (az b).2.1.toNat) else []
def aFn:Nat->List UInt8->Int
 | 0,_=>0
 | n+1,b=>if (az b).2.2=0 then (az b).2.1+aFn n (b.drop (az b).2.1.toNat) else 0
def aF (b:List UInt8):List (List UInt8):=ZL (b.length+1) b
def aN (b:List UInt8):Int:=aFn (b.length+1) b
theorem BN:∀ {n m:Nat} {b:List UInt8},b.length<n->b.length<m->ZL n b=ZL m b/\aFn n b=aFn m b
 | 0,_,_,h,_=>absurd h aK
 | _,0,_,_,h=>absurd h aK
 | n+1,m+1,b,e,f=>by
  simp only [ZL,aFn];by_cases a:(az b).2.2=0
  ·have g:=de a;have i:(b.drop (az b).2.1.toNat).length<b.length:=by rw [List.length_drop]; omega
   obtain ⟨c,d⟩:=BN (n:=n) (m:=m) (b:=b.drop (az b).2.1.toNat) aK aK;rw [c,d]; exact ⟨rfl,rfl⟩
  simp only [if_neg a,and_self]
def Nn (h:(az b).2.2=0):aF b=(az b).1 :: aF (b.drop (az b).2.1.toNat)/\aN b=(az b).2.1+aN (b.drop (az b).2.1.toNat):=by
 have d:=de h;have e:(b.drop (az b).2.1.toNat).length<b.length:=by rw [List.length_drop]; omega
 obtain ⟨a,c⟩:=BN (n:=b.length) (m:=(b.drop (az b).2.1.toNat).length+1) (b:=b.drop (az b).2.1.toNat) aK aK;rw [aF,aN,ZL,aFn,if_pos h,if_pos h,a,c]; exact ⟨rfl,rfl⟩
def Lp (h:¬(az b).2.2=0):aF b=[]/\aN b=0:=by
 rw [aF,aN,ZL,aFn,if_neg h,if_neg h]; exact ⟨rfl,rfl⟩
structure ZAv where
 l:List (List UInt8)
 a:Int
structure AJr (b:List UInt8) (q:ZAv):Prop where
 a0:0<=q.a
 a1:q.a<=b.length
 n:7*(q.l.length:Int)<=q.a
 f:aF b=q.l++aF (b.drop q.a.toNat)
 s:aN b=q.a+aN (b.drop q.a.toNat)
section
variable {b:List UInt8} {q:ZAv}
def ah4:AJr b ⟨[],0⟩:=⟨afz 0,Int.natCast_nonneg _,afz 0,rfl,(Int.zero_add _).symm⟩
def ahF (h:AJr b q) (e:(az (b.drop q.a.toNat)).2.2=0):AJr b ⟨q.l++[(az (b.drop q.a.toNat)).1],q.a+(az (b.drop q.a.toNat)).2.1⟩:=by
 have g:=de e;have ⟨o,p,r,i,c⟩:=h;rw [List.length_drop] at g;obtain ⟨d,f⟩:=Nn e;have j:(b.drop q.a.toNat).drop (az (b.drop q.a.toNat)).2.1.toNat=b.drop (q.a+(az (b.drop q.a.toNat)).2.1).toNat:=by
  rw [agz]; congr 1; omega
 rw [j] at d f;refine ⟨by dsimp only; omega,by dsimp only; omega,?_,?_,?_⟩
 ·simp only [List.length_append,List.length_cons,List.length_nil]; omega
 ·dsimp only; rw [i,d,List.append_assoc,List.singleton_append]
 dsimp only; rw [c,f]; omega
def abJ (h:AJr b q) (e:¬(az (b.drop q.a.toNat)).2.2=0):q.l=aF b/\q.a=aN b:=by
 have ⟨f,g,i,c,d⟩:=h;rw [c,d,(Lp e).1,(Lp e).2,ads]; exact ⟨rfl,(Int.add_zero _).symm⟩
end
def abj (b:List UInt8):List (Nat × LI):=[(3,{ σ:=ZAv,F:=fun q=>([(0,one (.fz .u8 (b))),(4,one (.own 0)),(5,one (.int q.a))],[.row 50 (.lst .u8) ((q.l))]),J:=fun q=>AJr b q,μ:=fun q=>(b.length - q.a).toNat })]
def FF:Kn:=aM (ae (kC (cL .u8)) ak) av fun (b,_) _=>⟨[b.length<=1000000],[.c (.fz (.lst .u8) ((aF b))),.c (.int ((aN b)))],none,false⟩
theorem Tm:CK 63 FF:=ag fun (b,_) _ f=>by
 have i:=cg f;refine aq AA (abj b) Tryz.func63 (?_:b.length*1<=140737488355328->∃ e,(b=b/\0=e.a/\e.l=[])/\AJr b e/\∀ (s:ZAv),(fun c=>AJr b s->0<=s.a/\s.a<=(↑b.length:Int)/\(c.fst.length*1<=140737488355328->I64 c.snd.fst->I64 c.snd.snd->(¬c.snd.snd=0->s.l=aF b/\s.a=aN b)/\(c.snd.snd=0->(s.l.length+[c.fst].length)*24<=140737488355328/\I64 (s.a+c.snd.fst)/\∃ d,(b=b/\s.a+c.snd.fst=d.a/\s.l++[c.fst]=d.l)/\AJr b d /\ ((↑b.length:Int) - d.a).toNat<((↑b.length:Int) - s.a).toNat))) (az (List.drop s.a.toNat b)));iterate 3 ((all_goals (repeat' with_reducible first|apply bc|refine ba ?_|intro)); (all_goals try (first | exact bm | exact rfl | exact ah4 | exact (ahF ab ab) | exact (abJ ab ab).1 | exact (abJ ab ab).2 | exact (abJ ab ab).1.symm | (have g:=(show AJr b ‹ZAv› by assumption); have ⟨_,_,_,_,_⟩:=g; first | omega | (refine bz ?_ ?_ <;> omega) | (have h:=de (b:=(List.drop (‹ZAv›.a).toNat b)) ab; rw [List.length_drop] at h; first | omega | (refine bz ?_ ?_ <;> omega) | (dsimp only; omega) | (rw [show ∀ x:List UInt8,[x].length=1 from fun _=>rfl]; omega))))); all_goals try first | refine ⟨ZAv.mk (‹ZAv›.l++[(az (List.drop (‹ZAv›.a).toNat b)).1]) (‹ZAv›.a+(az (List.drop (‹ZAv›.a).toNat b)).2.1),?_⟩ | refine ⟨ZAv.mk [] 0,?_⟩)
def XG:bF:=(aP 63 FF YY)
def B_:aw Tryz.prog (aj tyT) XG:=(ah Tm AA)
section
variable {r:Record}
def jG:recOk r=true↔(r.kind=1/\1<=r.a/\r.a<=3/\r.b=0/\(r.x.length:Int)<=0)\/(r.kind=2/\0<=r.a/\r.a<=1048576/\0<=r.b/\r.b<=5/\(r.x.length:Int)<=0)\/(r.kind=3/\1<=r.a/\r.a<=64/\0<=r.b/\r.b<=1048576/\(r.x.length:Int)<=200)\/(r.kind=4/\1<=r.a/\r.a<=64/\r.b=0/\(r.x.length:Int)<=0):=by
 have e:r.x=[]↔(r.x.length:Int)<=0:=by rw [<- List.length_eq_zero_iff]; omega
 rw [bM,e];omega
def agb (h:¬recOk r=true):ay r=([],1):=if_neg h
def Xn (h:recOk r=true):C_ r.kind=UInt8.ofNat r.kind.toNat:=by
 have:=dj h;rw [show r.kind=((r.kind.toNat:Nat):Int) by omega,qY,agl]
def afM (c:recOk r=true) (h:r.kind=2\/r.kind=3):[C_ r.kind]++bj r.a.toNat++bj r.b.toNat++r.x=(ay r).1:=by
 rw [qQ c,recPut,Xn c,if_pos (by rcases h with h | h <;> rw [h] <;> rfl)]
def aeA (c:recOk r=true) (h:¬r.kind=2/\¬r.kind=3):[C_ r.kind]++bj r.a.toNat++r.x=(ay r).1:=by
 have e:r.kind=1\/r.kind=4:=by have:=jG.1 c; omega
 rw [qQ c,recPut,Xn c,if_neg (by rcases e with h | h <;> rw [h] <;> decide),ads]
end
def EL:Kn:=aM (ae (kT (.nm .record)) ak) av fun (r,_) _=>⟨[],[.c (.fz .u8 (((ay r).1))),.c (.int (((ay r).2)))],none,false⟩
theorem Vu:CK 111 EL:=ag fun (r,_) _ _=>by
 refine aq (xC B_) [] Tryz.func111 (?_:(fun h=>(fun B=>(fun y=>(fun z=>(fun o=>(fun p=>(fun g=>(fun q=>(fun s=>(fun u=>(fun v=>(fun j=>(fun i=>(fun c=>(fun d=>(fun e=>(fun f=>(fun w=>df r ((r.kind=1->((B=false\/f)\/e->p)/\((B=true/\d)/\c->w))/\(¬r.kind=1->(j->(((u=false\/s=false)\/f)\/e->p)/\(((u=true/\s=true)/\d)/\c->w))/\(¬j->(i->((((z=false\/q=false)\/200<y)\/f)\/e->p)/\((((z=true/\q=true)/\y<=200)/\d)/\c->w))/\(¬i->(r.kind=4->((z=false\/f)\/e->p)/\((z=true/\d)/\c->w))/\(¬r.kind=4->(((!false)=true\/f)\/e->p)/\(((!false)=false/\d)/\c->w))))))) (g<=r.a/\([C_ r.kind].length+(bj r.a.toNat).length)*1<=140737488355328/\(j\/i->g<=h/\(o.length+(bj h.toNat).length)*1<=140737488355328/\((o++bj h.toNat).length+r.x.length)*1<=140737488355328/\o++bj h.toNat++r.x=(ay r).fst/\g=(ay r).snd)/\(¬j/\¬i->(o.length+r.x.length)*1<=140737488355328/\o++r.x=(ay r).fst/\g=(ay r).snd))) ((¬j/\¬i)/\¬v)) (¬i/\g<y)) ((j\/i)\/v)) (i\/y<=g)) (r.kind=3)) (r.kind=2)) (h=g)) (decide (g<=r.a) && decide (r.a<=1048576))) (decide (g<=h) && decide (h<=5))) (decide (g<=h) && decide (h<=1048576))) (0:Int)) ((ay r).fst=[]/\1=(ay r).snd)) ([C_ r.kind]++bj r.a.toNat)) (decide (1<=r.a) && decide (r.a<=64))) (↑r.x.length:Int)) (decide (1<=r.a) && decide (r.a<=3))) r.b);(repeat' with_reducible first|apply bc|refine ba ?_|intro)
 all_goals first | exact bm | (rw [agb (by rw [jG]; simp only [Bool.and_eq_true,decide_eq_true_eq,akP,agE] at *; omega)]; done) | (have A:recOk r=true:=(by rw [jG]; simp only [Bool.and_eq_true,decide_eq_true_eq,akP,agE] at *; omega); have C:=dj A; first | omega | (simp only [List.length_append,List.length_cons,List.length_nil]; omega) | exact afM A ab | exact aeA A aK | (rw [qQ A]; done)) | (simp_all; done) | skip
def Ye:bF:=(aP 111 EL XG)
def CV:aw Tryz.prog (aj tyT) Ye:=(ah Vu B_)
abbrev rs15 (b:List UInt8):List UInt8:=b.drop (1+((takeF (b.drop 1)).2.1:Int)).toNat
structure Tk15 (b:List UInt8) (r:Record):Prop where
 ok:recOk r=true
 put:b=recPut r
 len:¬(b.length:Int)=0
 kd:b[0]? = some (UInt8.ofNat r.kind.toNat)
 a:(takeF (b.drop 1)).1=r.a.toNat
 e:(takeF (b.drop 1)).2.2=0
 b2:r.kind=2\/r.kind=3->(takeF (rs15 b)).1=r.b.toNat/\(takeF (rs15 b)).2.2=0/\(rs15 b).drop (takeF (rs15 b)).2.1=r.x
section
variable {b:List UInt8} {x:UInt8} {r:Record}
def Dv (h:(aC b).2=0):Tk15 b (aC b).1:=by
 obtain ⟨e,g⟩:=yd h;generalize (aC b).1=r at *;subst g;have i:=dj e;have c:recPut r=UInt8.ofNat r.kind.toNat :: (bj r.a.toNat++((if qU r.kind=true then bj r.b.toNat else [])++r.x)):=by simp [recPut]
 have f:(recPut r).drop 1=bj r.a.toNat++((if qU r.kind=true then bj r.b.toNat else [])++r.x):=by rw [c]; rfl
 have d:takeF ((recPut r).drop 1)=(r.a.toNat,(bj r.a.toNat).length,0):=by rw [f]; exact jh aK _
 refine ⟨e,rfl,by rw [c]; simp only [List.length_cons]; omega,by rw [c]; rfl,by rw [d],by rw [d],fun j=>?_⟩;have o:rs15 (recPut r)=bj r.b.toNat++r.x:=by
  rw [rs15,d,show (1+((bj r.a.toNat).length:Int)).toNat=1+(bj r.a.toNat).length by omega,<- agz,f,List.drop_left,if_pos (by rcases j with h | h <;> rw [h] <;> rfl)]
 rw [o,jh aK];exact ⟨rfl,rfl,List.drop_left⟩
def Hi (h:¬(aC b).2=0):aC b=(kv,3):=by
 revert h; unfold aC;split
 ·intro _; rfl
 split
 ·intro _; rfl
 intro h; exact absurd rfl h
def HQ (a:b[0]? = some x) (q:Tk15 b r):(x.toNat:Int)=r.kind:=by
 have c:=dj q.ok;have e:=q.kd;rw [a] at e; cases e;rw [ofNat_toNat]; omega
def mI (h:(b.length:Int)=0):aC b=(kv,3):=Hi fun k=>(Dv k).len h
def mo (h:¬(takeF (b.drop 1)).2.2=0\/((1073741824:Nat):Int)<((takeF (b.drop 1)).1:Int)):aC b=(kv,3):=Hi fun k=>by
 have q:=Dv k;have c:=dj q.ok;rw [q.e,q.a] at h; omega
def mH (h:¬(takeF (rs15 b)).2.2=0\/((1073741824:Nat):Int)<((takeF (rs15 b)).1:Int)) (c:b[0]? = some x) (a:(x.toNat:Int)=2\/(x.toNat:Int)=3):aC b=(kv,3):=Hi fun k=>by
 have q:=Dv k;have d:=dj q.ok;rw [HQ c q] at a;rw [(q.b2 a).2.1,(q.b2 a).1] at h; omega
def Ok (a:(aC b).2=0->(aC b).1=r) (h:¬(ay r).2=0\/¬Str.mk (ay r).1=Str.mk b):aC b=(kv,3):=Hi fun k=>by
 have q:=Dv k;rw [a k] at q; rw [qQ q.ok] at h;rcases h with h | h
 ·exact h rfl
 exact h (congrArg Str.mk q.put.symm)
def mn (h:(ay r).2=0) (a:Str.mk (ay r).1=Str.mk b):aC b=(r,0):=by
 have c:=ct.1 h;rw [qQ c] at a;rw [<- Str.mk.inj a]; exact BA c
variable {a:Int}
def Cb {n:Nat} (h:n=a.toNat) (c:0<=a) (d:a<=1048576):a=dq n:=by
 rw [h,ng aK]; omega
theorem rec_eq {k c:Int} {y:List UInt8} (d:r.kind=k) (e:r.a=a) (f:r.b=c) (g:r.x=y):r=⟨k,a,c,y⟩:=by cases r; simp_all
def mj (h:¬(ay ⟨(x.toNat:Int),dq (takeF (b.drop 1)).1,dq (takeF (rs15 b)).1,(rs15 b).drop (takeF (rs15 b)).2.1⟩).2=0\/¬Str.mk (ay ⟨(x.toNat:Int),dq (takeF (b.drop 1)).1,dq (takeF (rs15 b)).1,(rs15 b).drop (takeF (rs15 b)).2.1⟩).1=Str.mk b) (d:b[0]? = some x) (f:(x.toNat:Int)=3):aC b=(kv,3):=Ok (fun k=>by
 have q:=Dv k;have g:=dj q.ok;have e:=HQ d q;have c:=q.b2 (.inr aK);exact rec_eq e.symm (Cb q.a aK aK) (Cb c.1 aK aK) c.2.2.symm) h
def mO (h:¬(ay ⟨(x.toNat:Int),dq (takeF (b.drop 1)).1,dq (takeF (rs15 b)).1,[]⟩).2=0\/¬Str.mk (ay ⟨(x.toNat:Int),dq (takeF (b.drop 1)).1,dq (takeF (rs15 b)).1,[]⟩).1=Str.mk b) (c:b[0]? = some x) (g:(x.toNat:Int)=2\/(x.toNat:Int)=3) (d:¬(x.toNat:Int)=3):aC b=(kv,3):=Ok (fun k=>by
 have q:=Dv k;have i:=dj q.ok;have e:=HQ c q;have f:=q.b2 (.inl aK);have c:(aC b).1.x=[]:=abL (by have:=jG.1 q.ok; omega);exact rec_eq e.symm (Cb q.a aK aK) (Cb f.1 aK aK) c) h
def my (h:¬(ay ⟨(x.toNat:Int),dq (takeF (b.drop 1)).1,0,[]⟩).2=0\/¬Str.mk (ay ⟨(x.toNat:Int),dq (takeF (b.drop 1)).1,0,[]⟩).1=Str.mk b) (c:b[0]? = some x) (d:¬(x.toNat:Int)=2/\¬(x.toNat:Int)=3):aC b=(kv,3):=Ok (fun k=>by
 have q:=Dv k;have f:=dj q.ok;have e:=HQ c q;have g:=jG.1 q.ok;have c:(aC b).1.x=[]:=abL aK;exact rec_eq e.symm (Cb q.a aK aK) aK c) h
def XT (c:b[0]? = some x):1+((takeF (b.drop 1)).2.1:Int)<=(b.length:Int):=by
 have:=NQ (b.drop 1);have d:=(aar.1 c).1;rw [List.length_drop] at this; omega
end
def Al:Kn:=aM (ae (kC (cL .u8)) ak) av fun (b,_) _=>⟨[],[.agg (cellsOf (.nm .record) ((aC b).1)),.c (.int (((aC b).2)))],none,false⟩
def RA:CK 64 Al:=ag fun (b,_) _ _=>by
 refine aq CV [] Tryz.func64 (?_:(fun A=>(fun r=>(fun e=>(fun H=>(fun F=>(fun G=>(fun y=>(fun g=>(fun s=>(fun u=>(fun c=>(fun z=>(fun B=>(fun C=>(fun v=>(fun f=>(fun D=>(fun w=>b.length*y<=e->(G=c->B)/\(¬G=c->c<=c/\c<G/\∀ (x:UInt8),(fun d=>(fun h=>(fun i=>(fun j=>(fun o=>(fun p=>b[(0:Nat)]? = some x->c<=A/\A<=G/\(s.fst<(18446744073709551616:Nat)->I64 (↑s.snd.fst:Int)->I64 s.snd.snd->(¬s.snd.snd=c\/r<(↑s.fst:Int)->B)/\(s.snd.snd=c/\(↑s.fst:Int)<=r->I64 u/\c<=u/\u<=G/\(d=(2:Int)\/h->v<(18446744073709551616:Nat)->I64 (↑f.fst:Int)->I64 f.snd->(¬f.snd=c\/r<(↑v:Int)->B)/\(f.snd=c/\(↑v:Int)<=r->c<=(↑f.fst:Int)/\(↑f.fst:Int)<=(↑C.length:Int)/\(h->D.length*y<=e/\(p.fst.length*y<=e->I64 p.snd->(¬p.snd=c\/¬Str.mk p.fst=Str.mk b->B)/\(p.snd=c/\Str.mk p.fst=Str.mk b->kV (Record.mk d z w D) g (c=F))))/\(¬h->o.fst.length*y<=e->I64 o.snd->(¬o.snd=c\/¬Str.mk o.fst=Str.mk b->B)/\(o.snd=c/\Str.mk o.fst=Str.mk b->d=g.kind/\z=g.a/\w=g.b/\g.x=[]/\c=F))))/\(¬d=(2:Int)/\¬h->(h->C.length*y<=e/\(i.fst.length*y<=e->I64 i.snd->(¬i.snd=c\/¬Str.mk i.fst=Str.mk b->B)/\(i.snd=c/\Str.mk i.fst=Str.mk b->kV (Record.mk d z c C) g (c=F))))/\(¬h->j.fst.length*y<=e->I64 j.snd->(¬j.snd=c\/¬Str.mk j.fst=Str.mk b->B)/\(j.snd=c/\Str.mk j.fst=Str.mk b->d=g.kind/\z=g.a/\c=g.b/\g.x=[]/\c=F)))))) (ay (Record.mk d z w D))) (ay (Record.mk d z w []))) (ay (Record.mk d z c []))) (ay (Record.mk d z c C))) (d=H)) (↑x.toNat:Int))) (dq v)) (List.drop f.fst C)) (takeF C).snd) (takeF C).fst) (List.drop u.toNat b)) (c=g.kind/\c=g.a/\c=g.b/\g.x=[]/\H=F)) (dq s.fst)) (0:Int)) (A+(↑s.snd.fst:Int))) (takeF (List.drop y b))) (aC b).fst) (1:Nat)) (↑b.length:Int)) (aC b).snd) (3:Int)) (140737488355328:Nat)) (↑(1073741824:Nat):Int)) (1:Int));(repeat' with_reducible first|apply bc|refine ba ?_|intro)
 all_goals (first | exact bm | exact (congrArg (fun q=>q.2) (mI ab)) | exact (congrArg (fun q=>q.2) (mI ab)).symm | exact (congrArg (fun q=>q.1.kind) (mI ab)) | exact (congrArg (fun q=>q.1.kind) (mI ab)).symm | exact (congrArg (fun q=>q.1.a) (mI ab)) | exact (congrArg (fun q=>q.1.a) (mI ab)).symm | exact (congrArg (fun q=>q.1.b) (mI ab)) | exact (congrArg (fun q=>q.1.b) (mI ab)).symm | exact (congrArg (fun q=>q.1.x) (mI ab)) | exact (congrArg (fun q=>q.1.x) (mI ab)).symm | exact (congrArg (fun q=>q.2) (mo ab)) | exact (congrArg (fun q=>q.2) (mo ab)).symm | exact (congrArg (fun q=>q.1.kind) (mo ab)) | exact (congrArg (fun q=>q.1.kind) (mo ab)).symm | exact (congrArg (fun q=>q.1.a) (mo ab)) | exact (congrArg (fun q=>q.1.a) (mo ab)).symm | exact (congrArg (fun q=>q.1.b) (mo ab)) | exact (congrArg (fun q=>q.1.b) (mo ab)).symm | exact (congrArg (fun q=>q.1.x) (mo ab)) | exact (congrArg (fun q=>q.1.x) (mo ab)).symm | exact (congrArg (fun q=>q.2) (mH ab ab ab)) | exact (congrArg (fun q=>q.2) (mH ab ab ab)).symm | exact (congrArg (fun q=>q.1.kind) (mH ab ab ab)) | exact (congrArg (fun q=>q.1.kind) (mH ab ab ab)).symm | exact (congrArg (fun q=>q.1.a) (mH ab ab ab)) | exact (congrArg (fun q=>q.1.a) (mH ab ab ab)).symm | exact (congrArg (fun q=>q.1.b) (mH ab ab ab)) | exact (congrArg (fun q=>q.1.b) (mH ab ab ab)).symm | exact (congrArg (fun q=>q.1.x) (mH ab ab ab)) | exact (congrArg (fun q=>q.1.x) (mH ab ab ab)).symm | exact (congrArg (fun q=>q.2) (mj ab ab ab)) | exact (congrArg (fun q=>q.2) (mj ab ab ab)).symm | exact (congrArg (fun q=>q.1.kind) (mj ab ab ab)) | exact (congrArg (fun q=>q.1.kind) (mj ab ab ab)).symm | exact (congrArg (fun q=>q.1.a) (mj ab ab ab)) | exact (congrArg (fun q=>q.1.a) (mj ab ab ab)).symm | exact (congrArg (fun q=>q.1.b) (mj ab ab ab)) | exact (congrArg (fun q=>q.1.b) (mj ab ab ab)).symm | exact (congrArg (fun q=>q.1.x) (mj ab ab ab)) | exact (congrArg (fun q=>q.1.x) (mj ab ab ab)).symm | exact (congrArg (fun q=>q.2) (mO ab ab ab ab)) | exact (congrArg (fun q=>q.2) (mO ab ab ab ab)).symm | exact (congrArg (fun q=>q.1.kind) (mO ab ab ab ab)) | exact (congrArg (fun q=>q.1.kind) (mO ab ab ab ab)).symm | exact (congrArg (fun q=>q.1.a) (mO ab ab ab ab)) | exact (congrArg (fun q=>q.1.a) (mO ab ab ab ab)).symm | exact (congrArg (fun q=>q.1.b) (mO ab ab ab ab)) | exact (congrArg (fun q=>q.1.b) (mO ab ab ab ab)).symm | exact (congrArg (fun q=>q.1.x) (mO ab ab ab ab)) | exact (congrArg (fun q=>q.1.x) (mO ab ab ab ab)).symm | exact (congrArg (fun q=>q.2) (my ab ab aK)) | exact (congrArg (fun q=>q.2) (my ab ab aK)).symm | exact (congrArg (fun q=>q.1.kind) (my ab ab aK)) | exact (congrArg (fun q=>q.1.kind) (my ab ab aK)).symm | exact (congrArg (fun q=>q.1.a) (my ab ab aK)) | exact (congrArg (fun q=>q.1.a) (my ab ab aK)).symm | exact (congrArg (fun q=>q.1.b) (my ab ab aK)) | exact (congrArg (fun q=>q.1.b) (my ab ab aK)).symm | exact (congrArg (fun q=>q.1.x) (my ab ab aK)) | exact (congrArg (fun q=>q.1.x) (my ab ab aK)).symm | exact (congrArg (fun q=>q.2) (mn ab ab)) | exact (congrArg (fun q=>q.2) (mn ab ab)).symm | exact (congrArg (fun q=>q.1.kind) (mn ab ab)) | exact (congrArg (fun q=>q.1.kind) (mn ab ab)).symm | exact (congrArg (fun q=>q.1.a) (mn ab ab)) | exact (congrArg (fun q=>q.1.a) (mn ab ab)).symm | exact (congrArg (fun q=>q.1.b) (mn ab ab)) | exact (congrArg (fun q=>q.1.b) (mn ab ab)).symm | exact (congrArg (fun q=>q.1.x) (mn ab ab)) | exact (congrArg (fun q=>q.1.x) (mn ab ab)).symm | exact (XT ab) | exact (NQ _) | (have:=XT (b:=b) ab; exact bz aK aK) | (simp only [List.length_drop]; omega))
def Ym:bF:=(aP 64 Al Ye)
def Bq:aw Tryz.prog (aj tyT) Ym:=(ah RA CV)
section
variable {s:Stable} {r:Record}
def mM (h:¬(ay r).2=0):aG s r=(s,(ay r).2):=by
 rw [(jv h).1,aG,if_pos (jv h).2]
variable (h0:(ay r).2=0)
include h0
def Ib (e:di s r=none):aG s r=(s,5):=by rw [aG,if_neg (by rw [ct.1 h0]; decide),e]
def GX {t:Stable} (e:di s r=some t):aG s r=(t,0):=by rw [aG,if_neg (by rw [ct.1 h0]; decide),e]
def mQ (c:r.kind=1) (h:r.a<s.floor):aG s r=(s,5):=Ib h0 (by rw [di,if_pos c,dD,if_pos h])
def mJ (c:r.kind=1) (h:s.floor<=r.a):aG s r=(⟨r.a,s.term,s.vote,s.log⟩,0):=GX h0 (by rw [di,if_pos c,dD,if_neg aK])
def mm (c:r.kind=2) (d:r.a<=s.term) (h:¬r.a=s.term\/¬s.vote=0/\¬s.vote=r.b):aG s r=(s,5):=Ib h0 (by rw [di,if_neg aK,if_pos c,eT,if_pos aK])
def mS (c:r.kind=2) (h:s.term<r.a\/r.a=s.term/\(s.vote=0\/s.vote=r.b)):aG s r=(⟨s.floor,r.a,r.b,s.log⟩,0):=GX h0 (by rw [di,if_neg aK,if_pos c,eT,if_neg aK])
def mK (c:r.kind=3) (h:¬r.a=(s.log.length:Int)+1):aG s r=(s,5):=Ib h0 (by rw [di,if_neg aK,if_neg aK,if_pos c,du,if_pos h])
def mA (c:r.kind=3) (h:r.a=(s.log.length:Int)+1):aG s r=(⟨s.floor,s.term,s.vote,s.log++[⟨r.b,r.x⟩]⟩,0):=GX h0 (by rw [di,if_neg aK,if_neg aK,if_pos c,du,if_neg (acY.2 h)])
def mD (c:r.kind=4) (h:(s.log.length:Int)<r.a):aG s r=(s,5):=Ib h0 (by rw [di,if_neg aK,if_neg aK,if_neg aK,fi,if_pos h])
def mP (c:r.kind=4) (h:r.a<=(s.log.length:Int)):aG s r=(⟨s.floor,s.term,s.vote,s.log.take (r.a - 1).toNat⟩,0):=GX h0 (by rw [di,if_neg aK,if_neg aK,if_neg aK,fi,if_neg aK])
def mN (a:¬r.kind=1) (c:¬r.kind=2) (d:¬r.kind=3) (e:¬r.kind=4):aG s r=(s,5):=by have:=jG.1 (ct.1 h0); omega
def ae3:0<=r.a/\r.a<=1048576/\(r.kind=4->0<=r.a - 1):=by have:=jG.1 (ct.1 h0); omega
end
def Ak:Kn:=aM (ae (kT (.nm .stable)) (ae (kT (.nm .record)) ak)) av fun (s,r,_) _=>⟨[s.log.length<=1000000],[.agg (cellsOf (.nm .stable) ((aG s r).1)),.c (.int (((aG s r).2)))],none,false⟩
def Oz:CK 65 Ak:=ag fun (s,r,_) _ o=>by
 have p:=cg o;refine aq Bq [] Tryz.func65 (?_:(fun j=>(fun c=>(fun g=>(fun e=>(fun f=>(fun i=>(fun d=>(fun h=>bR s (df r ((ay r).fst.length*1<=140737488355328->I64 j->(¬j=g->aD s f (j=(aG s r).snd))/\(j=g->s.log.length*32<=140737488355328/\(r.kind=e->(c<s.floor->h)/\(s.floor<=c->aD (Stable.mk c s.term s.vote s.log) f i))/\(¬r.kind=e->(r.kind=2->(c<=s.term/\(¬c=s.term\/¬s.vote=g/\¬s.vote=r.b)->h)/\(s.term<c\/c=s.term/\(s.vote=g\/s.vote=r.b)->aD (Stable.mk s.floor c r.b s.log) f i))/\(¬r.kind=2->(r.kind=3->I64 (d+e)/\r.x.length*1<=140737488355328/\(s.log.length+[Entry.mk r.b r.x].length)*32<=140737488355328/\(¬c=d+e->h)/\(c=d+e->aD (Stable.mk s.floor s.term s.vote (s.log++[Entry.mk r.b r.x])) f i))/\(¬r.kind=3->(r.kind=4->(c<=d->I64 (c - e)/\g<=c - e/\c - e<=d/\(d<c->h)/\(c<=d->aD (Stable.mk s.floor s.term s.vote (List.take (c - e).toNat s.log)) f i))/\(d<c->(d<c->h)/\(c<=d->aD s f i)))/\(¬r.kind=4->h)))))))) (aD s f (5=(aG s r).snd))) (↑s.log.length:Int)) (g=(aG s r).snd)) (aG s r).fst) (1:Int)) (0:Int)) r.a) (ay r).snd);(repeat' with_reducible first|apply bc|refine ba ?_|intro)
 all_goals (first | exact bm | exact (congrArg (fun q=>q.2) (mM ab)) | exact (congrArg (fun q=>q.2) (mM ab)).symm | exact (congrArg (fun q=>q.1.floor) (mM ab)) | exact (congrArg (fun q=>q.1.floor) (mM ab)).symm | exact (congrArg (fun q=>q.1.term) (mM ab)) | exact (congrArg (fun q=>q.1.term) (mM ab)).symm | exact (congrArg (fun q=>q.1.vote) (mM ab)) | exact (congrArg (fun q=>q.1.vote) (mM ab)).symm | exact (congrArg (fun q=>q.1.log) (mM ab)) | exact (congrArg (fun q=>q.1.log) (mM ab)).symm | exact (congrArg (fun q=>q.2) (mN ab ab ab ab ab)) | exact (congrArg (fun q=>q.2) (mN ab ab ab ab ab)).symm | exact (congrArg (fun q=>q.1.floor) (mN ab ab ab ab ab)) | exact (congrArg (fun q=>q.1.floor) (mN ab ab ab ab ab)).symm | exact (congrArg (fun q=>q.1.term) (mN ab ab ab ab ab)) | exact (congrArg (fun q=>q.1.term) (mN ab ab ab ab ab)).symm | exact (congrArg (fun q=>q.1.vote) (mN ab ab ab ab ab)) | exact (congrArg (fun q=>q.1.vote) (mN ab ab ab ab ab)).symm | exact (congrArg (fun q=>q.1.log) (mN ab ab ab ab ab)) | exact (congrArg (fun q=>q.1.log) (mN ab ab ab ab ab)).symm | exact (congrArg (fun q=>q.2) (mQ ab ab ab)) | exact (congrArg (fun q=>q.2) (mQ ab ab ab)).symm | exact (congrArg (fun q=>q.1.floor) (mQ ab ab ab)) | exact (congrArg (fun q=>q.1.floor) (mQ ab ab ab)).symm | exact (congrArg (fun q=>q.1.term) (mQ ab ab ab)) | exact (congrArg (fun q=>q.1.term) (mQ ab ab ab)).symm | exact (congrArg (fun q=>q.1.vote) (mQ ab ab ab)) | exact (congrArg (fun q=>q.1.vote) (mQ ab ab ab)).symm | exact (congrArg (fun q=>q.1.log) (mQ ab ab ab)) | exact (congrArg (fun q=>q.1.log) (mQ ab ab ab)).symm | exact (congrArg (fun q=>q.2) (mJ ab ab ab)) | exact (congrArg (fun q=>q.2) (mJ ab ab ab)).symm | exact (congrArg (fun q=>q.1.floor) (mJ ab ab ab)) | exact (congrArg (fun q=>q.1.floor) (mJ ab ab ab)).symm | exact (congrArg (fun q=>q.1.term) (mJ ab ab ab)) | exact (congrArg (fun q=>q.1.term) (mJ ab ab ab)).symm | exact (congrArg (fun q=>q.1.vote) (mJ ab ab ab)) | exact (congrArg (fun q=>q.1.vote) (mJ ab ab ab)).symm | exact (congrArg (fun q=>q.1.log) (mJ ab ab ab)) | exact (congrArg (fun q=>q.1.log) (mJ ab ab ab)).symm | exact (congrArg (fun q=>q.2) (mm ab ab ab ab)) | exact (congrArg (fun q=>q.2) (mm ab ab ab ab)).symm | exact (congrArg (fun q=>q.1.floor) (mm ab ab ab ab)) | exact (congrArg (fun q=>q.1.floor) (mm ab ab ab ab)).symm | exact (congrArg (fun q=>q.1.term) (mm ab ab ab ab)) | exact (congrArg (fun q=>q.1.term) (mm ab ab ab ab)).symm | exact (congrArg (fun q=>q.1.vote) (mm ab ab ab ab)) | exact (congrArg (fun q=>q.1.vote) (mm ab ab ab ab)).symm | exact (congrArg (fun q=>q.1.log) (mm ab ab ab ab)) | exact (congrArg (fun q=>q.1.log) (mm ab ab ab ab)).symm | exact (congrArg (fun q=>q.2) (mS ab ab ab)) | exact (congrArg (fun q=>q.2) (mS ab ab ab)).symm | exact (congrArg (fun q=>q.1.floor) (mS ab ab ab)) | exact (congrArg (fun q=>q.1.floor) (mS ab ab ab)).symm | exact (congrArg (fun q=>q.1.term) (mS ab ab ab)) | exact (congrArg (fun q=>q.1.term) (mS ab ab ab)).symm | exact (congrArg (fun q=>q.1.vote) (mS ab ab ab)) | exact (congrArg (fun q=>q.1.vote) (mS ab ab ab)).symm | exact (congrArg (fun q=>q.1.log) (mS ab ab ab)) | exact (congrArg (fun q=>q.1.log) (mS ab ab ab)).symm | exact (congrArg (fun q=>q.2) (mK ab ab ab)) | exact (congrArg (fun q=>q.2) (mK ab ab ab)).symm | exact (congrArg (fun q=>q.1.floor) (mK ab ab ab)) | exact (congrArg (fun q=>q.1.floor) (mK ab ab ab)).symm | exact (congrArg (fun q=>q.1.term) (mK ab ab ab)) | exact (congrArg (fun q=>q.1.term) (mK ab ab ab)).symm | exact (congrArg (fun q=>q.1.vote) (mK ab ab ab)) | exact (congrArg (fun q=>q.1.vote) (mK ab ab ab)).symm | exact (congrArg (fun q=>q.1.log) (mK ab ab ab)) | exact (congrArg (fun q=>q.1.log) (mK ab ab ab)).symm | exact (congrArg (fun q=>q.2) (mA ab ab ab)) | exact (congrArg (fun q=>q.2) (mA ab ab ab)).symm | exact (congrArg (fun q=>q.1.floor) (mA ab ab ab)) | exact (congrArg (fun q=>q.1.floor) (mA ab ab ab)).symm | exact (congrArg (fun q=>q.1.term) (mA ab ab ab)) | exact (congrArg (fun q=>q.1.term) (mA ab ab ab)).symm | exact (congrArg (fun q=>q.1.vote) (mA ab ab ab)) | exact (congrArg (fun q=>q.1.vote) (mA ab ab ab)).symm | exact (congrArg (fun q=>q.1.log) (mA ab ab ab)) | exact (congrArg (fun q=>q.1.log) (mA ab ab ab)).symm | exact (congrArg (fun q=>q.2) (mD ab ab ab)) | exact (congrArg (fun q=>q.2) (mD ab ab ab)).symm | exact (congrArg (fun q=>q.1.floor) (mD ab ab ab)) | exact (congrArg (fun q=>q.1.floor) (mD ab ab ab)).symm | exact (congrArg (fun q=>q.1.term) (mD ab ab ab)) | exact (congrArg (fun q=>q.1.term) (mD ab ab ab)).symm | exact (congrArg (fun q=>q.1.vote) (mD ab ab ab)) | exact (congrArg (fun q=>q.1.vote) (mD ab ab ab)).symm | exact (congrArg (fun q=>q.1.log) (mD ab ab ab)) | exact (congrArg (fun q=>q.1.log) (mD ab ab ab)).symm | exact (congrArg (fun q=>q.2) (mP ab ab ab)) | exact (congrArg (fun q=>q.2) (mP ab ab ab)).symm | exact (congrArg (fun q=>q.1.floor) (mP ab ab ab)) | exact (congrArg (fun q=>q.1.floor) (mP ab ab ab)).symm | exact (congrArg (fun q=>q.1.term) (mP ab ab ab)) | exact (congrArg (fun q=>q.1.term) (mP ab ab ab)).symm | exact (congrArg (fun q=>q.1.vote) (mP ab ab ab)) | exact (congrArg (fun q=>q.1.vote) (mP ab ab ab)).symm | exact (congrArg (fun q=>q.1.log) (mP ab ab ab)) | exact (congrArg (fun q=>q.1.log) (mP ab ab ab)).symm | (have:=ae3 ab; first | omega | exact bz aK aK) | (simp only [List.length_cons,List.length_nil]; omega))
def YU:bF:=(aP 65 Ak Ym)
def zH:aw Tryz.prog (aj tyT) YU:=(ah Oz Bq)
structure ZPv where
 i:Nat
 s:Stable
 u:Int
structure RK (b:List UInt8) (q:ZPv):Prop where
 rj:RJ b q.s q.u
 d:(aF b).drop q.i=aF (b.drop q.u.toNat)
section
variable {b x:List UInt8} {q:ZPv}
def v_ (h:(az b).2.2=0):(az b).2.1=((az b).1.length:Int)+6:=by
 have a:=oy b;revert h;unfold az;split
 ·intro h; cases h
 split
 ·intro h; cases h
 split
 ·intro h; cases h
 split
 ·intro _;dsimp only;rw [List.length_take,List.length_drop]; omega
 intro h; cases h
def ajf:RK b ⟨0,sta0,0⟩:=⟨adk,rfl⟩
def UH (h:RK b q) (a:(aF b)[q.i]? = some x):(az (b.drop q.u.toNat)).2.2=0/\x=(az (b.drop q.u.toNat)).1/\(aF b).drop (q.i+1)=aF ((b.drop q.u.toNat).drop (az (b.drop q.u.toNat)).2.1.toNat):=by
 obtain ⟨f,a⟩:=aar.1 a;have e:=agp f;rw [h.d,a] at e;by_cases c:(az (b.drop q.u.toNat)).2.2=0
 ·rw [(Nn c).1] at e;injection e with g j;exact ⟨c,g.symm,j.symm⟩
 rw [(Lp c).1] at e; cases e
def uU (h:RK b q) (c:(aF b)[q.i]? = some x) (d:¬(aC x).2=0):replayF b=(q.s,q.u):=by
 obtain ⟨a,rfl,_⟩:=UH h c; exact uC h.rj a d
def uL (h:RK b q) (c:(aF b)[q.i]? = some x) (d:(aC x).2=0) (e:¬(aG q.s (aC x).1).2=0):replayF b=(q.s,q.u):=by
 obtain ⟨a,rfl,_⟩:=UH h c; exact tc h.rj a d e
def Zt (a:(aF b)[k]? = some x):x=(aF b).getD k []:=by rw [List.getD_eq_getElem?_getD,a]; rfl
def Vv {s:Stable} (a:(aF b)[k]? = some x):aG s (aC x).1=aG s (aC ((aF b).getD k [])).1:=by rw [<- Zt a]
def ain (f:(aG q.s (aC x).1).2=0) (g:(aC x).2=0) (d:(aF b)[q.i]? = some x) (h:RK b q):RK b ⟨q.i+1,(aG q.s (aC ((aF b).getD q.i [])).1).1,q.u+(((aF b).getD q.i []).length:Int)+6⟩:=by
 rw [<- Zt d];obtain ⟨a,rfl,c⟩:=UH h d;have e:q.u+(((az (b.drop q.u.toNat)).1.length:Nat):Int)+6=q.u+(az (b.drop q.u.toNat)).2.1:=by rw [v_ a]; omega
 have j:=de a;have o:=h.rj.le;rw [e];refine ⟨adl h.rj a g f,?_⟩;show (aF b).drop (q.i+1)=_;rw [c,agz,show q.u.toNat+(az (b.drop q.u.toNat)).2.1.toNat=(q.u+(az (b.drop q.u.toNat)).2.1).toNat by omega]
def uK (h:RK b q) (c:((aF b).length:Int)<=(q.i:Int)):replayF b=(q.s,q.u):=by
 refine rP h.rj fun a=>?_;have e:=h.d;rw [agv aK,(Nn a).1] at e; cases e
def afX (h:RK b q) (c:(aF b)[q.i]? = some x) (f:b.length<=1000000):I64 (q.u+(x.length:Int))/\I64 (q.u+(x.length:Int)+6):=by
 obtain ⟨a,rfl,_⟩:=UH h c;have e:=v_ a;have d:=de a;have g:=h.rj.le;rw [List.length_drop] at d;exact ⟨bz aK aK,bz aK aK⟩
end
def Kc (b:List UInt8):List (Nat × LI):=[(5,{ σ:=ZPv,F:=fun q=>([(2,one (.ptr 0 0)),(4,one (.ptr 1 0)),(5,one (.fz (.lst .u8) (aF b))),(7,one (.int q.u)),(8,one (.int q.i))],[.box 64 (cellsOf (.nm .stable) (sta0)),.box 64 (cellsOf (.nm .stable) (q.s))]),J:=fun q=>q.i<=(aF b).length/\RK b q,μ:=fun q=>(aF b).length - q.i })]
def tr:Kn:=aM (ae (kC (cL .u8)) ak) av fun (b,_) _=>⟨[b.length<=1000000],[.agg (cellsOf (.nm .stable) ((replayF b).1)),.c (.int (((replayF b).2)))],none,false⟩
theorem Di:CK 21 tr:=ag fun (b,_) _ p=>by
 have r:=cg p;refine aq zH (Kc b) Tryz.func21 (?_:(fun f=>(fun h=>(fun a=>b.length*1<=140737488355328->b.length<=1000000/\((aF b).length*24<=140737488355328->I64 (aN b)->∃ c,(aF b=aF b/\a=c.u/\a=(↑c.i:Int)/\a=sta0.floor/\a=sta0.term/\a=sta0.vote/\sta0.log=[]/\a=c.s.floor/\a=c.s.term/\a=c.s.vote/\c.s.log=[])/\(c.i<=f/\RK b c)/\∀ (s:ZPv),(fun d=>(fun j=>s.i<=f/\RK b s->(d<h->a<=d/\d<h/\∀ (x:List (den Sh.u8)),(fun g=>(aF b)[s.i]? = some x->x.length*1<=140737488355328->df (aC x).fst (I64 (aC x).snd->(¬(aC x).snd=a->j)/\((aC x).snd=a->s.s.log.length<=1000000/\bR g.fst (I64 g.snd->(¬g.snd=a->j)/\(g.snd=a->a<=d/\d<h/\∀ (x:List (den Sh.u8)),(fun o=>(aF b)[s.i]? = some x->x.length*1<=140737488355328->I64 o/\I64 (o+6)/\I64 (d+1)/\∃ e,(aF b=aF b/\o+6=e.u/\d+1=(↑e.i:Int)/\aD sta0 sta0 (dM g.fst e.s))/\(e.i<=f/\RK b e)/\f - e.i<f - s.i) (s.u+(↑x.length:Int))))))) (aG s.s (aC x).fst))/\(h<=d->j)) (aD s.s (replayF b).fst (s.u=(replayF b).snd))) (↑s.i:Int))) (0:Int)) (↑(aF b).length:Int)) (aF b).length);iterate 3 ((all_goals (repeat' with_reducible first|apply bc|refine ba ?_|intro)); (all_goals try (first | exact bm | exact rfl | exact ajf | exact (congrArg (fun q=>q.2) (uU ab ab ab)) | exact (congrArg (fun q=>q.2) (uU ab ab ab)).symm | exact (congrArg (fun q=>q.1.floor) (uU ab ab ab)) | exact (congrArg (fun q=>q.1.floor) (uU ab ab ab)).symm | exact (congrArg (fun q=>q.1.term) (uU ab ab ab)) | exact (congrArg (fun q=>q.1.term) (uU ab ab ab)).symm | exact (congrArg (fun q=>q.1.vote) (uU ab ab ab)) | exact (congrArg (fun q=>q.1.vote) (uU ab ab ab)).symm | exact (congrArg (fun q=>q.1.log) (uU ab ab ab)) | exact (congrArg (fun q=>q.1.log) (uU ab ab ab)).symm | exact (congrArg (fun q=>q.2) (uL ab ab ab ab)) | exact (congrArg (fun q=>q.2) (uL ab ab ab ab)).symm | exact (congrArg (fun q=>q.1.floor) (uL ab ab ab ab)) | exact (congrArg (fun q=>q.1.floor) (uL ab ab ab ab)).symm | exact (congrArg (fun q=>q.1.term) (uL ab ab ab ab)) | exact (congrArg (fun q=>q.1.term) (uL ab ab ab ab)).symm | exact (congrArg (fun q=>q.1.vote) (uL ab ab ab ab)) | exact (congrArg (fun q=>q.1.vote) (uL ab ab ab ab)).symm | exact (congrArg (fun q=>q.1.log) (uL ab ab ab ab)) | exact (congrArg (fun q=>q.1.log) (uL ab ab ab ab)).symm | exact (congrArg (fun q=>q.2) (uK ab ab)) | exact (congrArg (fun q=>q.2) (uK ab ab)).symm | exact (congrArg (fun q=>q.1.floor) (uK ab ab)) | exact (congrArg (fun q=>q.1.floor) (uK ab ab)).symm | exact (congrArg (fun q=>q.1.term) (uK ab ab)) | exact (congrArg (fun q=>q.1.term) (uK ab ab)).symm | exact (congrArg (fun q=>q.1.vote) (uK ab ab)) | exact (congrArg (fun q=>q.1.vote) (uK ab ab)).symm | exact (congrArg (fun q=>q.1.log) (uK ab ab)) | exact (congrArg (fun q=>q.1.log) (uK ab ab)).symm | exact (afX ab ab ab).1 | exact (afX ab ab ab).2 | exact (adn (RK.rj ab) ab) | (dsimp only; with_reducible exact (congrArg (fun q:Stable × Int=>q.1.floor) (Vv ab))) | (dsimp only; with_reducible exact (congrArg (fun q:Stable × Int=>q.1.term) (Vv ab))) | (dsimp only; with_reducible exact (congrArg (fun q:Stable × Int=>q.1.vote) (Vv ab))) | (dsimp only; with_reducible exact (congrArg (fun q:Stable × Int=>q.1.log) (Vv ab))) | (with_reducible exact ain (q:=‹ZPv›) ab ab ab ab) | exact (congrArg (fun y:List UInt8=>‹ZPv›.u+(y.length:Int)+6) (Zt ab)) | (dsimp only; omega))); all_goals try first | refine ⟨ZPv.mk (‹ZPv›.i+1) (aG ‹ZPv›.s (aC ((aF b).getD ‹ZPv›.i [])).1).1 (‹ZPv›.u+(((aF b).getD ‹ZPv›.i []).length:Int)+6),?_⟩ | refine ⟨ZPv.mk 0 sta0 0,?_⟩)
def adV:bF:=(aP 21 tr YU)
def Lf:aw Tryz.prog (aj tyT) adV:=(ah Di zH)
abbrev tmL (L:List Record):Int:=(stepsF sta0 L).1.term
abbrev voL (L:List Record):Int:=(stepsF sta0 L).1.vote
abbrev flL (L:List Record):Int:=(stepsF sta0 L).1.floor
structure SMono (s t:Stable):Prop where
 term:s.term<=t.term
 floor:s.floor<=t.floor
 vote:s.term=t.term->s.vote≠0->t.vote=s.vote
def SMono.refl (s:Stable):SMono s s:=⟨afz _,afz _,fun _ _=>rfl⟩
variable {t:Stable}
def SMono.trans {s u:Stable} (h:SMono s t) (k:SMono t u):SMono s u:=⟨ah6 h.term k.term,ah6 h.floor k.floor,fun e a=>by
 have d:=h.term;have f:=k.term;have c:=h.vote aK a;rw [k.vote aK (by rw [c]; exact a),c]⟩
theorem Dc {s:Stable} {r:Record} (h:di s r=some t):SMono s t:=by
 unfold di dD eT du fi at h;split at h
 ·split at h <;> cases h;exact ⟨afz _,by dsimp only; omega,fun _ _=>rfl⟩
 split at h
 ·split at h <;> cases h;rename_i a;rw [not_or] at a;exact ⟨by dsimp only; omega,afz _,fun e c=>by
   by_cases q:s.vote=r.b
   ·grind
   exact absurd ⟨⟨e.symm,c⟩,q⟩ a.2⟩
 split at h
 ·split at h <;> cases h;exact ⟨afz _,afz _,fun _ _=>rfl⟩
 split at h <;> cases h;exact ⟨afz _,afz _,fun _ _=>rfl⟩
theorem tL:∀ {l:List Record} {s:Stable},SMono s (stepsF s l).1
 | [],s=>.refl s
 | r :: l,s=>by
  rw [stepsF];split
  ·rename_i h;exact (Dc (lR h).2).trans tL
  exact .refl s
def Bo (h:L <+: L') (a:(stepsF sta0 L).2=0):SMono (stepsF sta0 L).1 (stepsF sta0 L').1:=by
 obtain ⟨l,rfl⟩:=h;rw [dC a]; exact tL
def voteOf (x:Letter):Int:=if x.kind=1 then 2 else x.to+1
structure Gave (L:List Record) (x:Letter):Prop where
 kind:x.kind=1\/(x.kind=2/\x.ok=true)
 to:x.to≠1/\0<=x.to
 at_:x.term<=tmL L/\(x.term=tmL L->voL L=voteOf x)
def Gave.vote (h:x.to≠1/\0<=x.to):voteOf x≠0:=by
 unfold voteOf;split <;> omega
theorem Gave.mono (h:Gave L x) (a:L <+: L') (c:(stepsF sta0 L).2=0):Gave L' x:=by
 have m:=Bo a c;refine ⟨h.kind,h.to,ah6 h.at_.1 m.term,fun e=>?_⟩;have f:=h.at_.1;have g:tmL L<=tmL L':=m.term;have d:=h.at_.2 aK;have i:=m.vote (show tmL L=tmL L' by omega) (by show voL L≠0; rw [d]; exact Gave.vote h.to);grind
structure ZQv where
 i:Nat
 n:Nd
 t:Int
 v:Int
 f:Int
structure RI (n:Nd) (t v f:Int):Prop where
 ex:∃ L,NInv n L/\t<=tmL L/\f<=flL L/\(t=tmL L->v≠0->voL L=v)
section
variable {n m:Nd} {o:NOp} {t v f:Int}
def afV {l:List NOp} {x:NOp} (a:l[k]? = some x):x=l.getD k (ao (Sh.nm NT.nop)):=by rw [List.getD_eq_getElem?_getD,a]; rfl
theorem RI.ok (h:RI n t v f):NdOK n:=by obtain ⟨L,h,_⟩:=h.ex; exact h.ok
def aj2:RI (iv 1 5) 0 0 0:=⟨⟨[],HS am,afz 0,afz 0,fun _ h=>absurd rfl h⟩⟩
def yB (h:RI n t v f):RI (cj n o).1 t v f:=by
 obtain ⟨L,c,j,p,g⟩:=h.ex;obtain ⟨L',k⟩:=aaq (o:=o) c;have q:=Bo k.pre c.d.st;have r:tmL L<=tmL L':=q.term;have s:flL L<=flL L':=q.floor;refine ⟨⟨L',k.inv,aK,aK,fun e a=>?_⟩⟩;have i:voL L' = voL L:=q.vote (show tmL L=tmL L' by omega) (show voL L≠0 by rw [g aK a]; exact a);rw [i]; exact g aK a
def akv (h:RI n t v f):(cj n o).1.d.b.length<=1000000:=Nat.le_trans (yB h).ok.d.2.2 am
def akn (h:(true=false\/false=true)\/¬(0:Int)=0):false=true:=by simp at h
def SH (h:(cr n).up=false):n.d.down=true:=by
 cases e:n.d.down
 ·rw [De e] at h; cases h
 rfl
def ahS (hd:((cj n o).2.e=0\/(cr (cj n o).1).up=true)\/¬Str.mk (cj n o).1.d.b=Str.mk n.d.b) (g:((o.kind &&& UInt8.ofNat 7).toNat:Int)=((UInt8.ofNat 0).toNat:Int)) (a:(cr n).up=false) (r:o.n<max f 1\/3<o.n) (h:RI n t v f):false=true:=by
 obtain ⟨L,i,s,j,u⟩:=h.ex;have w:f<=(replayF n.d.b).1.floor:=by rw [i.d.rep]; exact j
 have p:=SH a;have c:¬b_ o.n (max (replayF n.d.b).1.floor 1)=0:=fun q=>by have:=wL q; omega
 rw [agh g,Zp p c] at hd;dsimp only at hd;rw [a] at hd;rcases hd with (hd | hd) | hd
 ·exact absurd hd c
 ·exact hd
 exact absurd rfl hd
def ajw (hd:((replayF m.d.b).1.term<t\/(replayF m.d.b).1.floor<f)\/((replayF m.d.b).1.term=t/\¬v=0)/\¬(replayF m.d.b).1.vote=v) (h:RI m t v f):false=true:=by
 obtain ⟨L,a,e,g,c⟩:=h.ex;rw [a.d.rep] at hd;dsimp only at hd;have i:tmL L=(stepsF sta0 L).1.term:=rfl;have j:flL L=(stepsF sta0 L).1.floor:=rfl;rcases hd with (hd | hd) | hd
 ·omega
 ·omega
 exact absurd (c aK hd.1.2) hd.2
def Zh (i:(cr m).up=true) (h:RI m t v f):∃ L,NInv m L/\UpI m L/\m.d.b=encL L/\m.c.st=(stepsF sta0 L).1/\cr m=⟨true,m.c.role,m.c.bin,m.c.st.floor,m.c.st.term,m.c.st.vote,m.c.commit,m.c.applied,m.c.st.log,m.c.s⟩/\replayF m.d.b=(m.c.st,(m.d.b.length:Int))/\t<=m.c.st.term/\f<=m.c.st.floor/\(t=m.c.st.term->v≠0->m.c.st.vote=v):=by
 obtain ⟨L,a,j,p,q⟩:=h.ex;have g:m.d.down=false:=by
  cases e:m.d.down
  ·rfl
  rw [Sb e] at i; cases i
 have u:=a.up g;have e:=a.d.up g;refine ⟨L,a,u,e,u.st,De g,by rw [a.d.rep,u.st,e],?_⟩;rw [u.st]; exact ⟨j,p,q⟩
def ahY (hd:(((((cr m).term<t\/(cr m).floor<f)\/((cr m).term=t/\¬v=0)/\¬(cr m).vote=v)\/(cr m).binary<1)\/¬(cr m).floor=(cr m).binary)\/¬(replayF m.d.b).2=(m.d.b.length:Int)) (a:(cr m).up=true) (h:RI m t v f):false=true:=by
 obtain ⟨L,j,c,p,q,e,g,r,s,i⟩:=Zh a h;have u:=c.bin;rw [e,g] at hd;dsimp only at hd;rcases hd with ((((hd | hd) | hd) | hd) | hd) | hd
 ·omega
 ·omega
 ·exact absurd (i hd.1.1.symm hd.1.2) hd.2
 ·omega
 ·omega
 exact absurd rfl hd
def aiC (a:((decide ((cr m).log=(replayF m.d.b).1.log)=false\/¬(replayF m.d.b).1.term=(cr m).term)\/¬(replayF m.d.b).1.vote=(cr m).vote)\/¬(replayF m.d.b).1.floor=(cr m).floor) (c:(cr m).up=true) (h:RI m t v f):false=true:=by
 obtain ⟨L,i,j,p,q,e,g,r⟩:=Zh c h;rw [e,g] at a; simp at a
def aiz (c:(cr m).up=true) (h:RI m t v f):RI m (cr m).term (cr m).vote (cr m).floor:=by
 obtain ⟨L,d,g,i,a,e,j,p⟩:=Zh c h;rw [e];exact ⟨⟨L,d,by rw [a]; exact afz _,by rw [a]; exact afz _,fun _ _=>by rw [a]⟩⟩
end
def Zb (l:List NOp):List (Nat × LI):=[(10,{ σ:=ZQv,F:=fun q=>([(0,one (.fz (.nm .nop) (l.take 40))),(4,one (.ptr 0 0)),(6,one (.int q.t)),(7,one (.int q.v)),(8,one (.int q.f)),(9,one (.int q.i))],(mh (q.n))),J:=fun q=>q.i<=(l.take 40).length/\RI q.n q.t q.v q.f,μ:=fun q=>(l.take 40).length - q.i })]
set_option maxHeartbeats 4000000 in
set_option maxRecDepth 8000 in
theorem VI (l:List NOp):Sat Tryz.prog (aj tyT) 5 [.c (.fz (.nm .nop) (l))] [] ⟨[],[.c (.bool (.atom ((true))))],none,false⟩:=by
 refine aq Lf (Zb l) Tryz.func5 (?_:(fun (Z:Nat)=>(fun (q9:Nat)=>(fun (q8:UInt8)=>(fun (q7:Int)=>(fun (Y:Prop)=>(fun (J:Nat)=>(fun (P:Int)=>(fun (w:Int)=>(fun (Q:Nat)=>(fun (q1:den (Sh.nm NT.nop))=>(fun (G:List (den (Sh.nm NT.nop)))=>(fun (k:Int)=>l.length*(200:Nat)<=J->((3:Int)<=(5:Int)/\(5:Int)<=(5:Int)/\w<=P/\P<(5:Int))/\(I64 w->((true=false\/Y)\/¬w=w->Y)/\((true=true/\false=false)/\w=w->G.length*(200:Nat)<=J->∃ (I:ZQv),(G=G/\w=I.t/\w=I.v/\w=I.f/\w=(↑I.i:Int)/\bV (iv P (5:Int)) I.n)/\(I.i<=Q/\RI I.n I.t I.v I.f)/\∀ (s:ZQv),(fun (m:Nat)=>(fun (y:Int)=>(fun (r:Int)=>(fun (K:Prop)=>(fun (A:Int)=>(fun (H:Prop)=>(fun (N:Int)=>(fun (p:Nd)=>(fun (S:Prop)=>(fun (z:den (Sh.nm NT.nop))=>(fun (T:Prop)=>(fun (o:Command)=>(fun (L:Prop)=>(fun (h:Letter)=>(fun (q26:Prop)=>s.i<=Q/\RI p r s.v y->(H->(w<=p.d.synced/\p.d.synced<=(↑p.d.b.length:Int)/\p.d.b.length<=Z)/\(p.d.b.length*q9<=J->Lt (cr p) (w<=A/\H/\∀ (x:NOp),(fun (D:ToldN)=>(fun (F:Nd)=>(fun (u:List UInt8)=>(fun (q36:Prop)=>(fun (U:Prop)=>(fun (V:Prop)=>(fun (g:Site)=>(fun (B:Int)=>(fun (C:Int)=>(fun (W:Prop)=>(fun (j:Stable)=>(fun (X:Prop)=>(fun (q27:Prop)=>G[s.i]? = some x->NN x (NdOK p/\(D.l.length*(96:Nat)<=J->I64 D.a->I64 D.b->I64 D.e->Lt g (w<=A/\H/\∀ (x:NOp),(fun (O:Prop)=>G[s.i]? = some x->NN x ((O/\S->w<=A/\H/\(T->w<=A/\H))/\((O/\S->I64 z.n/\I64 h.kind/\I64 h.frm/\I64 h.to/\I64 h.term/\I64 h.a/\I64 h.b/\I64 h.c/\I64 h.bin/\q26/\I64 o.kind/\I64 o.client/\I64 o.seq/\I64 o.set/\I64 o.id/\I64 o.n/\L/\o.text.b.length<=J/\(T->I64 z.n/\I64 h.kind/\I64 h.frm/\I64 h.to/\I64 h.term/\I64 h.a/\I64 h.b/\I64 h.c/\I64 h.bin/\q26/\I64 o.kind/\I64 o.client/\I64 o.seq/\I64 o.set/\I64 o.id/\I64 o.n/\L/\o.text.b.length<=J))->((O/\S)/\(z.n<max y P\/(3:Int)<z.n)->(W->V)/\((W->U)->((D.e=w\/g.up=true)\/¬Str.mk u=Str.mk p.d.b->Y)/\(W/\Str.mk u=Str.mk p.d.b->q27)))/\((¬O\/(cr p).up=true)\/T/\z.n<=(3:Int)->q27)))) ((↑(x.kind &&& q8).toNat:Int)=q7))))) (V/\(U->u.length<=(1000000:Nat)/\bR j (I64 (replayF u).snd->((j.term<r\/j.floor<y)\/(j.term=r/\¬K)/\¬j.vote=s.v->Y)/\((r<=j.term/\y<=j.floor)/\((¬j.term=r\/K)\/j.vote=s.v)->(g.up=true->(X->V)/\((X->U)->(((((B<r\/C<y)\/(B=r/\¬K)/\¬g.vote=s.v)\/g.binary<P)\/¬C=g.binary)\/¬q36->Y)/\(X/\q36->(((decide (g.log=j.log)=false\/¬j.term=B)\/¬j.vote=g.vote)\/¬j.floor=C->Y)/\(((decide (g.log=j.log)=true/\j.term=B)/\j.vote=g.vote)/\j.floor=C->I64 N/\∃ (q:ZQv),(G=G/\B=q.t/\g.vote=q.v/\C=q.f/\N=(↑q.i:Int)/\bV F q.n)/\(q.i<=Q/\RI q.n q.t q.v q.f)/\Q - q.i<m))))/\(g.up=false->I64 N/\∃ (q:ZQv),(G=G/\r=q.t/\s.v=q.v/\y=q.f/\N=(↑q.i:Int)/\bV F q.n)/\(q.i<=Q/\RI q.n q.t q.v q.f)/\Q - q.i<m)))))) ((((r<=B/\y<=C)/\((¬B=r\/K)\/g.vote=s.v))/\P<=g.binary)/\C=g.binary)) (replayF u).fst) (¬D.e=w/\g.up=false)) g.floor) g.term) (cr F)) (w<=F.d.synced/\F.d.synced<=(↑u.length:Int)/\u.length<=Z)) (u.length*q9<=J)) ((replayF u).snd=(↑u.length:Int))) F.d.b) (cj p x).fst) (cj p x).snd)))/\(k<=A->true=true)) (h.l.length*(32:Nat)<=J)) z.x) (o.chunks.length*(8:Nat)<=J)) z.c) (max y P<=z.n)) (G.getD s.i q1)) ((cr p).up=false)) s.n) (A+P)) (A<k)) (↑s.i:Int)) (s.v=w)) s.t) s.f) (Q - s.i)))) (↑G.length:Int)) (List.take (40:Nat) l)) (ao (Sh.nm NT.nop))) (List.take (40:Nat) l).length) (0:Int)) (1:Int)) (140737488355328:Nat)) (false=true)) (↑(UInt8.ofNat (0:Nat)).toNat:Int)) (UInt8.ofNat (7:Nat))) (1:Nat)) (65536:Nat))
 (repeat' with_reducible first|apply bc|refine ba ?_|intro)
 all_goals try (refine ⟨ZQv.mk 0 (iv 1 5) 0 0 0,?_⟩; (repeat' with_reducible first|apply bc|refine ba ?_|intro))
 all_goals try (repeat (have e:=afV (x:=‹NOp›) ab; subst e))
 all_goals try (have hg:(cr (cj ‹ZQv›.n ((List.take 40 l).getD ‹ZQv›.i (ao (Sh.nm NT.nop)))).1).up=true:=ab; clear hg; refine ⟨ZQv.mk (‹ZQv›.i+1) (cj ‹ZQv›.n ((List.take 40 l).getD ‹ZQv›.i (ao (Sh.nm NT.nop)))).1 (cr (cj ‹ZQv›.n ((List.take 40 l).getD ‹ZQv›.i (ao (Sh.nm NT.nop)))).1).term (cr (cj ‹ZQv›.n ((List.take 40 l).getD ‹ZQv›.i (ao (Sh.nm NT.nop)))).1).vote (cr (cj ‹ZQv›.n ((List.take 40 l).getD ‹ZQv›.i (ao (Sh.nm NT.nop)))).1).floor,?_⟩; (repeat' with_reducible first|apply bc|refine ba ?_|intro))
 all_goals try (have hg:(cr (cj ‹ZQv›.n ((List.take 40 l).getD ‹ZQv›.i (ao (Sh.nm NT.nop)))).1).up=false:=ab; clear hg; refine ⟨ZQv.mk (‹ZQv›.i+1) (cj ‹ZQv›.n ((List.take 40 l).getD ‹ZQv›.i (ao (Sh.nm NT.nop)))).1 ‹ZQv›.t ‹ZQv›.v ‹ZQv›.f,?_⟩; (repeat' with_reducible first|apply bc|refine ba ?_|intro))
 all_goals (first | exact bm | exact rfl | exact aj2 | exact (akn ab) | (dsimp only; omega) | exact (RI.ok ab) | exact (RI.ok ab).d.1 | exact (RI.ok ab).d.2.1 | exact (RI.ok ab).d.2.2 | exact (RI.ok (yB ab)).d.1 | exact (RI.ok (yB ab)).d.2.1 | exact (RI.ok (yB ab)).d.2.2 | exact (akv ab) | (exact ahS ab ab ab ab ab) | (exact ajw ab (yB ab)) | (exact ahY ab ab (yB ab)) | (exact aiC ab ab (yB ab)) | (exact aiz ab (yB ab)) | (exact yB ab))
end Go.Proofs.YticbaadnibdbkaaGreat
namespace Go.Proofs.YticbaadnibdbkaaGreat
open Go.RowKit Go.ChangeShapes Go.WideShapes
def HG (shp:TypeId->Option Sh) (w:World):Cx:=cx ⟨shp,w.heap.size,fun _=>False⟩ [] w
def ZC {shp:TypeId->Option Sh} {w:World} {s:Sh} {b:Nat} (h:b<w.heap.size):(HG shp w).at s b:=⟨⟨h,fun ⟨_,_,h,_⟩=>by simp at h,fun h=>h⟩,.inl h⟩
def Tr (P:Program) (shp:TypeId->Option Sh) (t:TypeId) (s:Sh):Prop:=
 ∀ (H:Type) (b:TypeId × Value->H) (w:World) (a:Nat) (c:List Value) (x:DataW H × List MemPlace),
  DataW.trod b P w 0 (fun _=>true) true a t c=some x->(∀ n ∈ x.1.weights P t,n<=140737488351232)->(∀ q ∈ x.2,q.block<w.heap.size)->∃ y:den s,Pds (HG shp w) (cellsOf s y) c
def ZU:List Sh->List AV->Prop
 | [],a=>a=[]
 | s :: r,a=>∃ (y:den s) (l:List AV),a=cellsOf s y++l/\ZU r l
def szL:List Sh->Nat
 | []=>0
 | s :: r=>s.size+szL r
def lT (P:Program) (shp:TypeId->Option Sh) (d:List Go.Field) (o:Nat) (h:List Sh):Prop:=
 ∀ (H:Type) (e:TypeId × Value->H) (w:World) (a:Nat) (g:List Value) (c:List (DataW H × List MemPlace)),
  g.length=o+szL h->c.length=d.length->(∀ (i:Nat) (f:Go.Field),d[i]? = some f->DataW.trod e P w 0 (fun _=>true) true a f.type ((g.drop f.offset).take (P.cellsOf f.type))=c[i]?) ->
  (∀ n ∈ DataW.weightsEach P (d.map (·.type)) (c.map (·.1)),n<=140737488351232)->(∀ q ∈ c.flatMap (·.2),q.block<w.heap.size)->∃ b,ZU h b/\Pds (HG shp w) b (g.drop o)
section
variable {P:Program} {shp:TypeId->Option Sh} {t:TypeId}
theorem Tr.int (h:P.underlying t=some (.int .i64)):Tr P shp t .int:=fun _ b w a e x c _ _=>by
 obtain ⟨n,rfl,_,d⟩:=DataW.trod_int h c;have f:IntKind.i64.min = -9223372036854775808:=rfl;have g:IntKind.i64.max=9223372036854775807:=rfl;simp only [Lit.wf,Bool.and_eq_true,decide_eq_true_eq] at d;exact ⟨n,.cons (.int ⟨aK,aK⟩) .nil⟩
def Tr.bool (h:P.underlying t=some .bool):Tr P shp t .bool:=fun _ b w a d x c _ _=>by
 obtain ⟨n,rfl,_⟩:=DataW.trod_bool h c;exact ⟨n,.cons (Pd.bool (e:=.atom n)) .nil⟩
def Tr.u8 (h:P.underlying t=some (.int .u8)):Tr P shp t .u8:=fun _ c w a f x d _ _=>by
 obtain ⟨n,rfl,_,e⟩:=DataW.trod_int h d;have g:IntKind.u8.min=0:=rfl;have i:IntKind.u8.max=255:=rfl;simp only [Lit.wf,Bool.and_eq_true,decide_eq_true_eq] at e;refine ⟨UInt8.ofNat n.toNat,?_⟩;have:n=((UInt8.ofNat n.toNat).toNat:Int):=by
  rw [UInt8.toNat_ofNat']; omega
 generalize j:UInt8.ofNat n.toNat=b at this;subst this;exact .cons .u8 .nil
def Tr.u64 (h:P.underlying t=some (.int .u64)):Tr P shp t .u64:=fun _ c w a f x d _ _=>by
 obtain ⟨n,rfl,_,e⟩:=DataW.trod_int h d;have g:IntKind.u64.min=0:=rfl;have i:IntKind.u64.max=18446744073709551615:=rfl;simp only [Lit.wf,Bool.and_eq_true,decide_eq_true_eq] at e;refine ⟨⟨n.toNat⟩,?_⟩;have:n=(n.toNat:Int):=by omega
 generalize j:n.toNat=b at this;subst this;exact .cons (.u64 (by show b<_; omega)) .nil
def Tr.str (h:P.underlying t=some .string):Tr P shp t .str:=fun _ d w b g x a f _=>by
 obtain ⟨s,rfl,a,_⟩:=DataW.trod_string h a;refine ⟨⟨s.data.toList⟩,?_⟩;have:=f s.data.toList.length (by rw [a]; simp [DataW.weights]);have e:=Pd.str (c:=HG shp w) (s:=⟨s.data.toList⟩) (by show s.data.toList.length<=_; omega);have i:(⟨s.data.toList⟩:Str).val = .string s:=by simp [Str.val]
 exact .cons e .nil
theorem lC {H:Type} {e:TypeId}:∀ {a:List (DataW H)} {d:DataW H},d ∈ a->∀ n ∈ d.weights P e,n ∈ DataW.weightsAll P e a
 | d0 :: a,d,h,n,b=>by
  rw [DataW.weightsAll,acf];rcases acV.1 h with rfl | h
  ·grind
  exact .inr (lC h n b)
def Kt {s:Sh} {a:List (den s)} {y:den s}:(a++[y]).flatMap (cellsOf s)=a.flatMap (cellsOf s)++cellsOf s y:=by simp
theorem Tr.list {e:TypeId} {s:Sh} (u:P.underlying t=some (.slice e)) (O:P.cellsOf e=s.size) (hB:P.bytesOf e=s.bytes) (Q:Tr P shp e s):Tr P shp t (.lst s):=fun H z w K A x S L i=>by
 have T:=size_pos s;rcases DataW.trod_slice u S with ⟨rfl,_⟩ | ⟨a,len,U,c,f,n,rfl,rfl,rfl,_,hl,V,W,l,B,_⟩
 ·exact ⟨([]:List (den s)),.cons (Pd.yk (.em (a:=none) (b:=true) rfl)) .nil⟩
 rw [O] at *;have step:∀ m,m<=len->∃ (d:List Value) (h:List (den s)),Pds (HG shp w) (h.flatMap (cellsOf s)) d/\h.length=m/\CellsAt w a d:=by
  intro m;induction m with
  | zero=>intro _; exact ⟨[],[],.nil,rfl,CellsAt.nil⟩
  | succ m X=>
   intro hm;obtain ⟨d,h,p,r,C⟩:=X aK;have N:=l m aK;have D:c[m]? = some (c[m]' aK):=List.getElem?_eq_getElem aK;rw [D,Option.bind_eq_some_iff] at N;obtain ⟨A,F,G⟩:=N;have g:c[m]' aK ∈ c:=agy _;obtain ⟨y,Y⟩:=Q H z w n A _ G
    (fun k Z=>L k (by
     simp only [DataW.weights,u,acV,acf];exact .inr (.inl (lC (akJ g) k Z))))
    (fun q hq=>i q (by
     simp only [acf,List.mem_flatMap];exact .inr ⟨_,.inl g,hq⟩))
   obtain ⟨_,hcl,I⟩:=World.cells?_some F;refine ⟨d++A,h++[y],by rw [Kt]; exact p.append Y,by simp [r],fun j v o=>?_⟩;have J:d.length=m*s.size:=by rw [<- p.length,bW,r]
   by_cases hj:j<m*s.size
   ·rw [List.getElem?_append_left aK] at o;exact C j v o
   rw [agx aK,J] at o;have hj2:=sM o;have:=I (j - m*s.size) aK;rw [o,add_add,show m*s.size+(j - m*s.size)=j by omega] at this;exact this
 obtain ⟨d,h,p,r,C⟩:=step len (Nat.le_refl _);have hwt:(c.length+f.length)*P.bytesOf e<=140737488351232:=L _ (by simp [DataW.weights,u]);refine ⟨h,.cons ?_ .nil⟩;subst r;refine .fz aK V ?_ p ?_
 ·grind
 by_cases h0:h.length=0
 ·grind
 right;refine ⟨a,rfl,ZC ?_,C⟩;have:MemPlace.cell a.block (a.off+0) ∈ MemPlace.row a ((c.length+f.length)*s.size):=MemPlace.mem_row.2 ⟨0,Nat.mul_pos aK T,rfl⟩;exact i _ (acZ _ this)
def lT.nil {o:Nat}:lT P shp [] o []:=fun H b w a d e c _ _ _ _=>⟨[],rfl,by rw [List.drop_eq_nil_of_le (by simp only [szL] at c; omega)]; exact .nil⟩
def lT.cons {f:Go.Field} {p:List Go.Field} {o:Nat} {s:Sh} {d:List Sh} (h:Tr P shp f.type s) (B:f.offset=o) (C:P.cellsOf f.type=s.size) (D:lT P shp p (o+s.size) d):lT P shp (f :: p) o (s :: d):=fun H b w a r e F g u v c=>by
 match e,g with
 | x :: e,g=>
  have G:r.length=o+(s.size+szL d):=F;have A:=u 0 f rfl;rw [B,C] at A;obtain ⟨y,I⟩:=h H b w a _ x A (fun n j=>v n (by simp [DataW.weightsEach,j])) (fun q k=>c q (by simp [k]));obtain ⟨z,l,m⟩:=D H b w a r e aK (by simpa using g) (fun i J K=>by simpa using u (i+1) J (by simpa using K)) (fun n j=>v n (by simp only [agB,DataW.weightsEach,acf]; exact .inr j)) (fun q k=>c q (by simp only [List.flatMap_cons,acf]; exact .inr k));refine ⟨cellsOf s y++z,⟨y,z,rfl,l⟩,?_⟩;have:=I.append m;rwa [<- agz,List.take_append_drop] at this
theorem Tr.struct {s:Sh} {ss:List Sh} {e:Array Go.Field} (g:P.underlying t=some (.struct e)) (v:P.cellsOf t=szL ss) (z:∀ a,ZU ss a->∃ y:den s,a=cellsOf s y) (h:lT P shp e.toList 0 ss):Tr P shp t s:=fun H b w j l x m o c=>by
 obtain ⟨p,n,_,rfl,A,d,q⟩:=DataW.trod_struct g m;obtain ⟨a,B,C⟩:=h H b w n l p aK (by simpa using d) (fun i f r=>q i f (by simpa using r)) (fun k u=>o k (by simpa [DataW.weights,g] using u)) c;grind
end
section
variable {H:Type} {enc:TypeId × Value->H} {P:Program} {shp:TypeId->Option Sh}
structure Ar (enc:TypeId × Value->H) (P:Program) (W:World) (t:TypeId) (v:Value):Prop where
 form:∃ base,Value.okWide P W .any base t v
 read:∃ d p fuel,DataW.trod enc P W 0 (fun _=>true) true fuel t v.cells.toList=some (d,p)/\(∀ n ∈ d.weights P t,n<=140737488351232)/\(∀ q ∈ p,q.block<W.heap.size)
variable {W:World} {t:TypeId} {v:Value}
def Ar.rp {s:Sh} (h:Ar enc P W t v) (b:Tr P shp t s):∃ y:den s,Pds (HG shp W) (cellsOf s y) v.cells.toList:=by
 obtain ⟨d,p,a,c,e,f⟩:=h.read;exact b H enc W a _ _ c e f
def Eo {a:AV} {u:Value} (h:Pds (HG shp W) [a] [u]):dk (HG shp W) [] (.c a) u:=by cases h with | cons b _=>exact kI b
theorem Ar.int (h:Ar enc P W t v) (a:P.underlying t=some (.int .i64)):∃ y:Int,dk (HG shp W) [] (.c (.int y)) v:=by
 obtain ⟨base,b⟩:=h.form;obtain ⟨n,rfl⟩:=okWide_int a b;obtain ⟨y,d⟩:=h.rp (shp:=shp) (Tr.int a);exact ⟨y,Eo (by simpa [Value.cells,cellsOf] using d)⟩
def Ar.u8 (h:Ar enc P W t v) (a:P.underlying t=some (.int .u8)):∃ y:UInt8,dk (HG shp W) [] (.c (.u8 y)) v:=by
 obtain ⟨base,b⟩:=h.form;obtain ⟨n,rfl⟩:=okWide_int a b;obtain ⟨y,d⟩:=h.rp (shp:=shp) (Tr.u8 a);exact ⟨y,Eo (by simpa [Value.cells,cellsOf] using d)⟩
def Ar.bool (h:Ar enc P W t v) (a:P.underlying t=some .bool):∃ y:Bool,dk (HG shp W) [] (.c (.bool (.atom y))) v:=by
 obtain ⟨base,d⟩:=h.form;obtain ⟨b,rfl⟩:=okWide_bool a d;exact ⟨b,Pd.bool (e:=.atom b)⟩
def Ar.list {e:TypeId} {s:Sh} (h:Ar enc P W t v) (b:P.underlying t=some (.slice e)) (d:Tr P shp t (.lst s)):∃ f:List (den s),dk (HG shp W) [] (.c (.fz s f)) v:=by
 obtain ⟨base,g⟩:=h.form;obtain ⟨a,len,i,rfl⟩:=okWide_slice b g;obtain ⟨y,j⟩:=h.rp d;exact ⟨y,Eo (by simpa [Value.cells,cellsOf] using j)⟩
def VW {f:Nat} {args:List TV1} {pre:List Prop} {e:BE} {b:List Value} (h:Sat P shp f args [] ⟨pre,[.c (.bool e)],none,false⟩) (a:e.val=true) (g:All2 (dk (HG shp W) []) args b) (d:TabsOK (HG shp W):=by refine ⟨?_,?_⟩ <;> intro e a <;> first | simp [Vc] at a | simp [afS] at a):jI P f b.toArray W fun r i=>r = .bool true/\Kp [] W i:=by
 refine (h.2 ⟨shp,W.heap.size,fun _=>False⟩ [] W b rfl ⟨.nil,fun _ _ _ _ _ h=>by simp at h,fun _ _ _ h=>by simp at h,fun _ h=>h.elim,Nat.le_refl _,d⟩ g).mono fun v o ⟨p,j,k,l⟩=>⟨?_,k⟩;cases l with | cons m n=>
 cases n;cases m;rw [j,a]; rfl
variable {ds:List (DataW H)} {args:Array Value}
def Wv {base:Nat} {a:List TypeId} {p:List MemPlace} (k:∀ (j:Nat) t v,a[j]? = some t->args[j]? = some v->Value.okWide P W .any base t v)
  (h:DataW.TrodAll enc P W 0 (fun _=>true) true a args.toList ds p) (i:∀ n ∈ DataW.weightsEach P a ds,n<=140737488351232) (c:∀ q ∈ p,q.block<W.heap.size) :
  args.size=a.length/\∀ (j:Nat) t v,a[j]? = some t->args[j]? = some v->Ar enc P W t v:=by
 have l:∀ (a:List TypeId) (e:List Value) (ds:List (DataW H)) (p:List MemPlace),DataW.TrodAll enc P W 0 (fun _=>true) true a e ds p->(∀ n ∈ DataW.weightsEach P a ds,n<=140737488351232)->(∀ q ∈ p,q.block<W.heap.size) ->
   e.length=a.length/\∀ (j:Nat) t v,a[j]? = some t->e[j]? = some v->∃ d p b,DataW.trod enc P W 0 (fun _=>true) true b t v.cells.toList=some (d,p)/\(∀ n ∈ d.weights P t,n<=140737488351232)/\(∀ q ∈ p,q.block<W.heap.size):=by
  intro a;induction a with
  | nil=>intro e ds p h _ _; obtain ⟨rfl,_,_⟩:=trodAll_nil h; exact ⟨rfl,fun j t v h=>by simp at h⟩
  | cons t a u=>
   intro e ds p h i c;obtain ⟨v,e,d,ds,w,x,rfl,rfl,rfl,y,z⟩:=trodAll_cons h;obtain ⟨m,o⟩:=u e ds x z (fun n r=>i n (by rw [DataW.weightsEach,acf]; exact .inr r)) (fun q s=>c q (ac1 _ s));refine ⟨by simp [m],fun j A B f g=>?_⟩;cases j with
   | zero=>
    simp at f g;subst f; subst g;obtain ⟨b,k⟩:=y;exact ⟨d,w,b,k,fun n r=>i n (by rw [DataW.weightsEach,acf]; exact .inl r),fun q s=>c q (acZ _ s)⟩
   | succ j=>exact o j A B (by simpa using f) (by simpa using g)
 obtain ⟨m,o⟩:=l a args.toList ds p h i c;exact ⟨by simpa using m,fun j t v f g=>⟨⟨base,k j t v f g⟩,o j t v f (by simpa using g)⟩⟩
variable {W':World}
def Kx (j:laidOutB P=true) (k:Below W.heap.size W W'):∀ (a:List TypeId) (c:List Value) (ds:List (DataW H)) (p:List MemPlace),a.all (fun t=>P.readableRec t && decide (t<P.types.size))=true->DataW.TrodAll enc P W 0 (fun _=>true) true a c ds p->(∀ q ∈ p,q.block<W.heap.size) ->
  DataW.TrodAll enc P W' 0 (fun b=>decide (b<W.heap.size)) true a c ds p:=by
 intro a;induction a with
 | nil=>intro c ds p _ h _; obtain ⟨rfl,rfl,rfl⟩:=trodAll_nil h; rfl
 | cons t a l=>
  intro c ds p f h e;obtain ⟨v,c,d,ds,m,i,rfl,rfl,rfl,n,o⟩:=trodAll_cons h;rw [ahp,Bool.and_eq_true,Bool.and_eq_true,decide_eq_true_eq] at f;exact ⟨m,i,Below.trod j f.1.1 f.1.2 n k fun q g=>e q (acZ _ g),l c ds i f.2 o fun q g=>e q (ac1 _ g),rfl⟩
variable {fn:Func} {tb:TypeId}
def Ni {s:ChangeSpec} {p:List MemPlace} (e:laidOutB P=true)
  (a:fn.params.toList.all (fun t=>P.readableRec t && decide (t<P.types.size))=true) (f:fn.resultTypes = #[tb]) (g:P.underlying tb=some .bool) (i:s.vars=[])
  (b:s.fn H (ds++[])={ results:=[.lit (.bool true)],args:=ds }) (j:DataW.Whole enc P fn.params.toList s.vars false W args.toList ds [] p) (k:DataW.TrodAll enc P W 0 (fun _=>true) true fn.params.toList args.toList ds p) (c:∀ q ∈ p,q.block<W.heap.size) (d:Kp [] W W') :
  s.post enc P fn false true false false W args (.bool true) W':=by
 refine ⟨ds,[],p,[],p,[],j,?_,?_,?_,d.below.frame _,fun h=>by cases h⟩
 ·rw [b,f];exact trodAll_mk1 ⟨1,by simp [DataW.trod,Value.cells,g]⟩
 ·rw [b];exact Kx e d.below _ _ _ _ a k c
 rw [b,i]; rfl
theorem Qk {C:Checked} {os:Os} {f:FuncId} {s:ChangeSpec} {b:List PathCond} (I:ownKnob C.prog.godebug=none) (c:os.Started) (l:C.prog.inits.idxOf? f=none) (J:C.prog.funcs[f]? = some fn)
  (g:∃ (w:World) (a:Tape) (i:Input),w.os=os/\(w.forCall a i).Shaped C.prog/\i.vars=[]/\Input.okWide C.prog (w.forCall a i) .any w.heap.size f i /\
   s.pre6 enc C.prog fn b false (w.forCall a i).memory i.args/\({}:Assume).holds C.prog (lone (Frame.enter C.prog f i.args .normal) [] (w.forCall a i)))
  (Y:laidOutB C.prog=true) (u:fn.params.toList.all (fun t=>C.prog.readableRec t && decide (t<C.prog.types.size))=true) (Z:fn.resultTypes = #[tb]) (P:C.prog.underlying tb=some .bool) (F:s.vars=[])
  (hs:∀ ds:List (DataW H),ds.length=fn.params.size->s.fn H ds={ results:=[.lit (.bool true)],args:=ds })
  (K:∀ (W:World) (args:Array Value),args.size=fn.params.toList.length->(∀ (j:Nat) t v,fn.params.toList[j]? = some t->args[j]? = some v->Ar enc C.prog W t v)->jI C.prog f args W fun r W'=>r = .bool true/\Kp [] W W') :
  ReturnsInHanded {} C os f .any (s.pre6 enc C.prog fn b false) (s.post enc C.prog fn false true false false):=by
 refine returnsInHanded_of_change_sized I c l J g ?_;intro W base args ds gs G y U _ z _;have m:=U;obtain ⟨p,q,L,V,rfl,_,_⟩:=U;rw [F] at V;obtain ⟨rfl,rfl⟩:=trodVars_none V;simp only [ads] at m z;have A:∀ x ∈ p,x.block<W.heap.size:=fun x hx=>by simpa using m.lt x hx
 have N:∀ n ∈ DataW.weightsEach C.prog fn.params.toList ds,n<=140737488351232:=fun n hn=>by
  have B:n ∈ DataW.weightsEach C.prog (fn.params.toList++s.plain.varTypes C.prog) ds:=by
   have:∀ (k O:List TypeId) (ds:List (DataW H)),n ∈ DataW.weightsEach C.prog k ds->n ∈ DataW.weightsEach C.prog (k++O) ds:=by
    intro k;induction k with
    | nil=>intro O ds h; simp [DataW.weightsEach] at h
    | cons t k X=>
     intro O ds h;cases ds with
     | nil=>simp [DataW.weightsEach] at h
     | cons d ds=>
      rw [DataW.weightsEach,acf] at h;rw [List.cons_append,DataW.weightsEach,acf];grind
   grind
  exact acW (agV.1 z n B)
 obtain ⟨o,Q⟩:=Wv (fun j t v ht F=>y j t v (by simpa using ht) F) L N A;have S:ds.length=fn.params.size:=by
  have:∀ (k:List TypeId) (D:List Value) (ds:List (DataW H)) (p:List MemPlace),DataW.TrodAll enc C.prog W 0 (fun _=>true) true k D ds p->ds.length=k.length:=by
   intro k;induction k with
   | nil=>intro D ds p h; obtain ⟨_,rfl,_⟩:=trodAll_nil h; rfl
   | cons t k X=>intro D ds p h; obtain ⟨v,D,d,ds,p1,p2,rfl,rfl,rfl,_,h2⟩:=trodAll_cons h; simp [X D ds p2 h2]
  simpa using this _ _ _ _ L
 refine ak0 (K W args o Q) fun e W' ⟨v,he,T,hk⟩=>⟨v,he,?_⟩;subst T;exact Ni Y u Z P F (by rw [ads]; exact hs ds S) m L A hk
end
end Go.Proofs.YticbaadnibdbkaaGreat
namespace Go.Proofs.YticbaadnibdbkaaGreat
open Go.RowKit Go.ChangeShapes Go.WideShapes
def QR:ownKnob Tryz.prog.godebug=none:=bN
def Ov:laidOutB Tryz.prog=true:=bN
def aiZ:Tr Tryz.prog (aj tyT) 35 (.nm .command):=Tr.struct (ss:=[.int,.int,.int,.int,.int,.int,(.lst .int),.str]) Tryz.underlying35 bN (fun a h=>by
 obtain ⟨y0,j,rfl,b,k,rfl,c,l,rfl,d,m,rfl,e,n,rfl,f,o,rfl,g,p,rfl,i,q,rfl,rfl⟩:=h;exact ⟨⟨y0,b,c,d,e,f,g,i⟩,rfl⟩) (lT.cons (Tr.int Tryz.underlying3) rfl bN (lT.cons (Tr.int Tryz.underlying3) rfl bN (lT.cons (Tr.int Tryz.underlying3) rfl bN (lT.cons (Tr.int Tryz.underlying3) rfl bN (lT.cons (Tr.int Tryz.underlying3) rfl bN (lT.cons (Tr.int Tryz.underlying3) rfl bN (lT.cons (Tr.list Tryz.underlying33 bN bN (Tr.int Tryz.underlying3)) rfl bN (lT.cons (Tr.str Tryz.underlying9) rfl bN (lT.nil)))))))))
def akj:Tr Tryz.prog (aj tyT) 52 (.nm .entry):=Tr.struct (ss:=[.int,(.lst .u8)]) Tryz.underlying52 bN (fun a h=>by
 obtain ⟨y0,c,rfl,b,d,rfl,rfl⟩:=h;exact ⟨⟨y0,b⟩,rfl⟩) (lT.cons (Tr.int Tryz.underlying3) rfl bN (lT.cons (Tr.list Tryz.underlying50 bN bN (Tr.u8 Tryz.underlying5)) rfl bN (lT.nil)))
def ai5:Tr Tryz.prog (aj tyT) 40 (.nm .letter):=Tr.struct (ss:=[.int,.int,.int,.int,.int,.int,.int,.int,.bool,(.lst (.nm .entry))]) Tryz.underlying40 bN (fun a h=>by
 obtain ⟨y0,l,rfl,b,m,rfl,c,n,rfl,d,o,rfl,e,p,rfl,f,q,rfl,g,r,rfl,i,s,rfl,j,t,rfl,k,u,rfl,rfl⟩:=h;exact ⟨⟨y0,b,c,d,e,f,g,i,j,k⟩,rfl⟩) (lT.cons (Tr.int Tryz.underlying3) rfl bN (lT.cons (Tr.int Tryz.underlying3) rfl bN (lT.cons (Tr.int Tryz.underlying3) rfl bN (lT.cons (Tr.int Tryz.underlying3) rfl bN (lT.cons (Tr.int Tryz.underlying3) rfl bN (lT.cons (Tr.int Tryz.underlying3) rfl bN (lT.cons (Tr.int Tryz.underlying3) rfl bN (lT.cons (Tr.int Tryz.underlying3) rfl bN (lT.cons (Tr.bool Tryz.underlying4) rfl bN (lT.cons (Tr.list Tryz.underlying38 bN bN (akj)) rfl bN (lT.nil)))))))))))
def ais:Tr Tryz.prog (aj tyT) 60 (.nm .nop):=Tr.struct (ss:=[.u8,.int,(.nm .letter),(.nm .command)]) Tryz.underlying60 bN (fun a h=>by
 obtain ⟨y0,e,rfl,b,f,rfl,c,g,rfl,d,i,rfl,rfl⟩:=h;exact ⟨⟨y0,b,c,d⟩,rfl⟩) (lT.cons (Tr.u8 Tryz.underlying5) rfl bN (lT.cons (Tr.int Tryz.underlying3) rfl bN (lT.cons (ai5) rfl bN (lT.cons (aiZ) rfl bN (lT.nil)))))
set_option maxRecDepth 100000 in
def uv (os:Os) (a:os.Started) (H:Type) (enc:TypeId × Value->H) :
  ReturnsInHanded {} Tryz.checked os 5 .any (Rows.nodeRisesSpec.pre6 enc Tryz.prog Tryz.f5 Rows.nodeRisesRow.domain false) (Rows.nodeRisesSpec.post enc Tryz.prog Tryz.f5 false true false false):=by
 refine Qk (C:=Tryz.checked) QR a bN Tryz.func5 (ChangeSpec.witness6 (enc:=enc) (C:=Tryz.checked) false ⟨#[],#[.slice none 0 0],[]⟩ 8 bN bN bN bN) Ov bN bN Tryz.underlying4 rfl (fun b h=>?_) ?_
 ·match b,h with
  | [g],_=>rfl
 intro W args c d;obtain ⟨l⟩:=args;match l,c with
 | [i],_=>
  obtain ⟨e,f⟩:=Ar.list (shp:=aj tyT) (d 0 54 _ rfl rfl) Tryz.underlying54 (Tr.list Tryz.underlying54 bN bN (ais));exact VW (VI e) rfl (.cons f .nil)
set_option maxHeartbeats 40000000 in
def qT:joinedFacts Tryz.checked.prog 5 Tryz.f5 Rows.nodeRisesSpec Rows.nodeRisesRow=true:=by
 unfold joinedFacts;repeat' with_reducible refine Bool.and_eq_true_iff.2 ⟨?_,?_⟩
 all_goals as_aux_lemma=>kernel_rfl
theorem nodeRises_holds:Rows.NodeRisesSaid:=
 OpenClaim.holds_of_wide 5 Tryz.f5 rfl rfl rfl rfl rfl rfl rfl ⟨rfl,rfl,rfl,rfl,rfl⟩ rfl rfl rfl rfl rfl bN Tryz.func5 qT
  (acW bN) (by unfold Func.isWrapper; first | (rw [if_pos (by decide +kernel)]; kernel_rfl) | (rw [if_neg (by decide +kernel)]; exact ⟨rfl,rfl⟩))
  (fun os a H b _=>uv os a H b)
