/- What leads to the law, part 5. Conditions: each lemma's own. -/
import Derived.Test.YtoecbhljidgajaaGreatNPM4
set_option linter.unusedVariables false
set_option linter.unusedSimpArgs false
set_option maxHeartbeats 2000000
set_option linter.defProp false
open List (any_append any_cons drop getD_eq_getElem?_getD map_map range replicate take take_of_length_le)
open UInt8 (ofNat)
namespace Go.Proofs.YtoecbhljidgajaaGreat
open Go.Proofs.Tryz
open Go.RowKit
def M4:=@List.take_succ_cons
def A0:=@Classical.not_not
variable{k:Nat}{n:Int}
def vW(a:¬(k:Int)=0)(b:(k:Int)<n)(c:n<=140737488355328):(jQ (k:Int) 1).toNat=k-1/\0<=jQ (k:Int) 1/\jQ (k:Int) 1<n:=by
 rw[YW ⟨N,N⟩];omega
variable{st:c5}
def ant{v:Int}:(aM st.bo 1 3&&aM st.next 1 1048576&&aM st.dc 0 8&&aM st.eR 0 64&&(decide (st.eR=0)||decide (3<=v))&&decide ((st.c3.length:Int)<=16))=(pA st v&&bA bB eS.a6 8 (st.c8.take 0)):=(O6 _).symm
def apn{v:Int}(h:(st.c8.length:Int)<=k):(pA st v&&bA bB eS.a6 8 (st.c8.take k))=((pA st v&&bA bB eS.a6 8 (st.c8.take st.c8.length))&&bA bC n7.set 8 (st.eb.take 0)):=by
 rw[take_of_length_le N,O1];exact(O6 _).symm
def am1{B:Bool}{v:Int}(h:(st.eb.length:Int)<=k):(B&&bA bC n7.set 8 (st.eb.take k))=((B&&bA bC n7.set 8 (st.eb.take st.eb.length))&&fp st v (st.c3.take 0)):=by
 rw[take_of_length_le N,O1];exact(O6 _).symm
section
variable{B:Bool}{k:Nat}
variable{x:eS}{l:List eS}
def zr(a:l[k]? =some x):(B&&bA bB eS.a6 8 (l.take (k+1)))=((((((B&&bA bB eS.a6 8 (l.take k))&&aM x.a6 1 8)&&aM x.seq 0 1048576)&&aM x.last.code 0 99)&&aM x.last.n 0 1048576)&&(decide ((k:Int)=0)||decide (bJ eS.a6 0 (l.take k)<x.a6))):=Lt a
def qL{l:List n7}{x:n7}(a:l[k]? =some x):(B&&bA bC n7.set 8 (l.take (k+1)))=((((B&&bA bC n7.set 8 (l.take k))&&aM x.set 1 8)&&aM x.a6 1 8)&&(decide ((k:Int)=0)||decide (bJ n7.set 0 (l.take k)<x.set))):=LO a
def akW(f:l[k]? =some x)(a:(B&&bA bB eS.a6 8 (l.take k))=true)(b:aM x.a6 1 8=true)(c:aM x.seq 0 1048576=true)(d:aM x.last.code 0 99=true)(e:aM x.last.n 0 1048576=true)(g:(k:Int)=0):true=(B&&bA bB eS.a6 8 (l.take (k+1))):=by
 rw[zr f,a,b,c,d,e,F5 g];rfl
def ag2(g:l[k]? =some x)(a:(B&&bA bB eS.a6 8 (l.take k))=true)(b:aM x.a6 1 8=true)(c:aM x.seq 0 1048576=true)(d:aM x.last.code 0 99=true)(e:aM x.last.n 0 1048576=true)(f:¬(k:Int)=0)(h:(k:Int)<l.length)(i:(l.length:Int)<=140737488355328):decide ((l.getD (jQ (k:Int) 1).toNat (c4 (.nm .c8))).a6<x.a6)=(B&&bA bB eS.a6 8 (l.take (k+1))):=by
 have j:=(vW f h i).1;rw[zr g,a,b,c,d,e,D7 f,j,kM N (gd (d:=c4 (.nm .c8)) N)];rfl
def arx(a:l[k]? =some x)(h:(((((B&&bA bB eS.a6 8 (l.take k))=false\/aM x.a6 1 8=false)\/aM x.seq 0 1048576=false)\/aM x.last.code 0 99=false)\/aM x.last.n 0 1048576=false)):false=(B&&bA bB eS.a6 8 (l.take (k+1))):=by
 rw[zr a];rcases h with(((h|h)|h)|h)|h<;>rw[h]<;>simp
variable{x:n7}{l:List n7}
def akf(d:l[k]? =some x)(a:(B&&bA bC n7.set 8 (l.take k))=true)(b:aM x.set 1 8=true)(c:aM x.a6 1 8=true)(e:(k:Int)=0):true=(B&&bA bC n7.set 8 (l.take (k+1))):=by
 rw[qL d,a,b,c,F5 e];rfl
def akk(f:l[k]? =some x)(a:(B&&bA bC n7.set 8 (l.take k))=true)(b:aM x.set 1 8=true)(c:aM x.a6 1 8=true)(e:¬(k:Int)=0)(g:(k:Int)<l.length)(h:(l.length:Int)<=140737488355328):decide ((l.getD (jQ (k:Int) 1).toNat (c4 (.nm .opn))).set<x.set)=(B&&bA bC n7.set 8 (l.take (k+1))):=by
 have i:=(vW e g h).1;rw[qL f,a,b,c,D7 e,i,kM N (gd (d:=c4 (.nm .opn)) N)];rfl
def akq(a:l[k]? =some x)(h:(B&&bA bC n7.set 8 (l.take k))=false):false=(B&&bA bC n7.set 8 (l.take (k+1))):=by rw[qL a,h];rfl
def ag7(a:l[k]? =some x)(h:aM x.set 1 8=false):false=(B&&bA bC n7.set 8 (l.take (k+1))):=by rw[qL a,h];simp
def aiN(a:l[k]? =some x)(h:aM x.a6 1 8=false):false=(B&&bA bC n7.set 8 (l.take (k+1))):=by rw[qL a,h];simp
variable{st:c5}{v:Int}
def aib(c:(k:Int)<st.c3.length)(a:(B&&fp st v (st.c3.take k))=true)(b:iP st.next v (st.c3.getD k (c4 (.nm .snap)))=true)(d:(k:Int)=0):true=(B&&fp st v (st.c3.take (k+1))):=by
 rw[oi (gd c),a,b,F5 d];rfl
def alI(c:(k:Int)<st.c3.length)(a:(B&&fp st v (st.c3.take k))=true)(b:iP st.next v (st.c3.getD k (c4 (.nm .snap)))=true)(e:¬(k:Int)=0)(f:(st.c3.length:Int)<=140737488355328):decide ((st.c3.getD (jQ (k:Int) 1).toNat (c4 (.nm .snap))).id<(st.c3.getD k (c4 (.nm .snap))).id)=(B&&fp st v (st.c3.take (k+1))):=by
 have g:=(vW e c f).1;rw[oi (gd (d:=c4 (.nm .snap)) c),a,b,D7 e,g,kM N (gd (d:=c4 (.nm .snap)) N)];rfl
def alR(b:(k:Int)<st.c3.length)(a:(B&&fp st v (st.c3.take k))=false):false=(B&&fp st v (st.c3.take (k+1))):=by rw[oi (gd (d:=c4 (.nm .snap)) b),a];rfl
def ama(a:(k:Int)<st.c3.length)(b:iP st.next v (st.c3.getD k (c4 (.nm .snap)))=false):false=(B&&fp st v (st.c3.take (k+1))):=by rw[oi (gd (d:=c4 (.nm .snap)) a),b];simp
end
def aoF{v:Int}(a:aM v 1 3=true)(h:(((pA st v&&bA bB eS.a6 8 (st.c8.take st.c8.length))&&bA bC n7.set 8 (st.eb.take st.eb.length))&&fp st v (st.c3.take k))=false)(b:(st.c3.length:Int)<=k):6=bP st v:=
 agv (by rw[a];rfl) (tw _) (tw _) (by omega:st.c3.length<=k) (by rw[h];rfl)
def aqq{v:Int}(a:aM v 1 3=true)(h:(((pA st v&&bA bB eS.a6 8 (st.c8.take st.c8.length))&&bA bC n7.set 8 (st.eb.take st.eb.length))&&fp st v (st.c3.take k))=true)(b:(st.c3.length:Int)<=k):0=bP st v:=
 ajV (by rw[a];rfl) (tw _) (tw _) (by omega:st.c3.length<=k) (by rw[h];rfl)
def ao_{v:Int}(a:aM v 1 3=false):1=bP st v:=anf (by rw[a];rfl)
def ajn(st:c5)(v:Int):List (Nat×LI):=[(5,{σ:=Nat,F:=λk=>([(1,one (.int v)),(2,one (.ptr 0 0)),(5,one (.bool (.atom (pA st v&&bA bB eS.a6 8 (st.c8.take k))))),(6,one (.int k))],[.box 56 (cellsOf (.nm .state) st)]),J:=λk=>k<=st.c8.length,μ:=λk=>st.c8.length-k}),(11,{σ:=Nat,F:=λk=>([(1,one (.int v)),(2,one (.ptr 0 0)),(5,one (.bool (.atom ((pA st v&&bA bB eS.a6 8 (st.c8.take st.c8.length))&&bA bC n7.set 8 (st.eb.take k))))),(8,one (.int k))],[.box 56 (cellsOf (.nm .state) st)]),J:=λk=>k<=st.eb.length,μ:=λk=>st.eb.length-k}),(16,{σ:=Nat,F:=λk=>([(1,one (.int v)),(2,one (.ptr 0 0)),(5,one (.bool (.atom (((pA st v&&bA bB eS.a6 8 (st.c8.take st.c8.length))&&bA bC n7.set 8 (st.eb.take st.eb.length))&&fp st v (st.c3.take k))))),(10,one (.int k))],[.box 56 (cellsOf (.nm .state) st)]),J:=λk=>k<=st.c3.length,μ:=λk=>st.c3.length-k})]
theorem adQ:CK 260 (aD mj av λ(st,v,_) _=>{rs:=[.c (.int (bP st v))]}):=ag λ(st,v,_) _ _=>by
 refine al (IS Bw) (ajn st v) func260 (?_:(λm H e g=>(λD B=>(λF t u l d C=>(λo h w f=>(λQ k=>(λy=>cK st (W v->(aM v f 3=false->f=bP st v)/\(aM v f 3=true->∃z,(e/\(aM st.bo f 3&&aM st.next f 1048576&&aM st.dc d l&&aM st.eR d 64&&(decide (st.eR=d)||decide (3<=v))&&decide (o<=16))=(m&&bA bB eS.a6 l (take z g))/\d=(z:Int)/\u)/\z<=t/\∀(s:Nat),(λi=>(λp I=>s<=t->(i<D->d<=i/\i<D/\∀(x:eS),g[s]? =some x->dL x (((((I=true/\aM x.a6 f l=true)/\aM x.seq d 1048576=true)/\aM x.last.code d 99=true)/\aM x.last.n d 1048576=true->(i=d->W p/\∃a,(e/\true=(m&&bA bB eS.a6 l (take a g))/\p=(a:Int)/\u)/\a<=t/\t-a<t-s)/\(¬i=d->(d<=jQ i f/\jQ i f<D)/\dL (g.getD (jQ i f).toNat (c4 (Sh.nm NT.c8))) (W p/\∃a,(e/\decide ((g.getD (jQ i f).toNat (c4 (Sh.nm NT.c8))).a6<x.a6)=(m&&bA bB eS.a6 l (take a g))/\p=(a:Int)/\u)/\a<=t/\t-a<t-s)))/\((((I=false\/aM x.a6 f l=false)\/aM x.seq d 1048576=false)\/aM x.last.code d 99=false)\/aM x.last.n d 1048576=false->W p/\∃a,(e/\false=(m&&bA bB eS.a6 l (take a g))/\p=(a:Int)/\u)/\a<=t/\t-a<t-s)))/\(D<=i->∃z,(e/\I=(k&&bA bC n7.set l (take z B))/\d=(z:Int)/\u)/\z<=w/\∀(s:Nat),(λj=>(λq J K=>(λL=>s<=w->(j<F->d<=j/\j<F/\∀(x:n7),B[s]? =some x->W x.set->W x.a6->(J=true->(aM x.set f l=true->(aM x.a6 f l=true->(j=d->W q/\∃a,(e/\true=(k&&bA bC n7.set l (take a B))/\q=(a:Int)/\u)/\a<=w/\w-a<w-s)/\(¬j=d->(d<=jQ j f/\jQ j f<F)/\(W K.set->W K.a6->W q/\∃a,(e/\decide (K.set<x.set)=(k&&bA bC n7.set l (take a B))/\q=(a:Int)/\u)/\a<=w/\w-a<w-s)))/\(aM x.a6 f l=false->L))/\(aM x.set f l=false->L))/\(J=false->L))/\(F<=j->∃z,(e/\J=(y&&fp st v (take z C))/\d=(z:Int)/\u)/\z<=h/\∀(s:Nat),(λA b=>(λr G=>(λP=>s<=h->(b<o->(d<=b/\b<o)/\bY A ((G=true->(iP st.next v A=true->(b=d->W r/\∃a,(e/\true=(y&&fp st v (take a C))/\r=(a:Int)/\u)/\a<=h/\h-a<h-s)/\(¬b=d->(d<=jQ b f/\jQ b f<o)/\(d<=b/\b<o)/\bY (C.getD (jQ b f).toNat H) (bY A (W r/\∃a,(e/\decide ((C.getD (jQ b f).toNat H).id<A.id)=(y&&fp st v (take a C))/\r=(a:Int)/\u)/\a<=h/\h-a<h-s))))/\(iP st.next v A=false->P))/\(G=false->P)))/\(o<=b->(G=false->6=bP st v)/\(G=true->d=bP st v))) (W r/\∃a,(e/\false=(y&&fp st v (take a C))/\r=(a:Int)/\u)/\a<=h/\h-a<h-s)) (b+f) (y&&fp st v (take s C))) (C.getD s H) (s:Int))) (W q/\∃a,(e/\false=(k&&bA bC n7.set l (take a B))/\q=(a:Int)/\u)/\a<=w/\w-a<w-s)) (j+f) (k&&bA bC n7.set l (take s B)) (B.getD (jQ j f).toNat (c4 (Sh.nm NT.opn)))) (s:Int))) (i+f) (m&&bA bB eS.a6 l (take s g))) (s:Int)))) (k&&Q)) (bA bC n7.set l (take w B)) (m&&bA bB eS.a6 l (take t g))) (C.length:Int) C.length B.length (1:Int)) (B.length:Int) g.length (cg st st) (8:Int) (0:Int) st.c3) (g.length:Int) st.eb) (pA st v) (c4 (Sh.nm NT.snap)) (v=v) st.c8)
 (repeat' with_reducible first|apply aH|refine aI ?_|intro)
 all_goals try(refine⟨0,?_⟩;(repeat' with_reducible first|apply aH|refine aI ?_|intro))
 all_goals try(have c:(‹Nat›:Int)<(st.c8.length:Int):=N;clear c;refine⟨‹Nat›+1,?_⟩;(repeat' with_reducible first|apply aH|refine aI ?_|intro))
 all_goals try(have c:((st.c8.length:Nat):Int)<=(‹Nat›:Int):=N;clear c;refine⟨0,?_⟩;(repeat' with_reducible first|apply aH|refine aI ?_|intro))
 all_goals try(have c:(‹Nat›:Int)<(st.eb.length:Int):=N;clear c;refine⟨‹Nat›+1,?_⟩;(repeat' with_reducible first|apply aH|refine aI ?_|intro))
 all_goals try(have c:((st.eb.length:Nat):Int)<=(‹Nat›:Int):=N;clear c;refine⟨0,?_⟩;(repeat' with_reducible first|apply aH|refine aI ?_|intro))
 all_goals try(refine⟨‹Nat›+1,?_⟩;(repeat' with_reducible first|apply aH|refine aI ?_|intro))
 all_goals(first|exact aZ|exact rfl|exact(ao_ Y)|exact ant|exact(apn N)|exact(am1 N)|exact(vW Y Y N).2.1|exact(vW Y Y N).2.2|exact(akW Y Y Y Y Y Y Y)|exact(ag2 Y Y Y Y Y Y Y Y N)|exact(arx Y Y)|exact(akf Y Y Y Y Y)|exact(akk Y Y Y Y Y Y N)|exact(akq Y Y)|exact(ag7 Y Y)|exact(aiN Y Y)|exact(aib Y Y Y Y)|exact(alI Y Y Y Y N)|exact(alR Y Y)|exact(ama Y Y)|exact(aoF Y Y N)|exact(aqq Y Y N))
def u_:=(ae adQ Bw)
variable{hi:Int}
theorem Oe{c:b6}{lo:Int}(a:lo=(mo c.kind).1)(d:hi=(mo c.kind).2):((((((lA c.a6 (!decide (c.kind=8)) 1 8&&lA c.seq (!decide (c.kind=8)&& !decide (c.kind=1)) 1 1048576)&&lA c.set (aM c.kind 2 4) 1 8)&&lA c.id (decide (c.kind=5)||decide (c.kind=7)||aM c.kind 9 11) 1 1048576)&&lA c.n (decide (c.kind=6)||decide (c.kind=8)||decide (c.kind=12)) lo hi)&&Au c)&&(decide (((c.text.b.length:Nat):Int)=0)||(decide (c.kind=11)&&decide (((c.text.b.length:Nat):Int)<=16))))=fX c:=by
 subst a;subst d;exact QH
def aqH{c:b6}{v:Int}(h:aM v 1 3=false\/br c.kind=0):1=aO c v:=by
 refine ajb ?_;rcases h with h|h
 .rw[h];rfl
 rw[F5 h,Bool.or_true]
def api{c:b6}{v:Int}(a:aM v 1 3=true)(b:¬br c.kind=0):(!(aM v 1 3)||decide (br c.kind=0))=false:=by rw[a,D7 b];rfl
def aiA{c:b6}{v:Int}(a:aM v 1 3=true)(b:¬br c.kind=0)(d:v<br c.kind):10=aO c v:=ae7 (api a b) d
theorem apx{c:b6}{v lo:Int}{p:Prop}(e:aM v 1 3=true)(f:¬br c.kind=0)(g:br c.kind<=v)(h:((((((lA c.a6 (!decide (c.kind=8)) 1 8=false\/lA c.seq (!decide (c.kind=8)&& !decide (c.kind=1)) 1 1048576=false)\/lA c.set (aM c.kind 2 4) 1 8=false)\/lA c.id (decide (c.kind=5)||decide (c.kind=7)||aM c.kind 9 11) 1 1048576=false)\/lA c.n (decide (c.kind=6)||decide (c.kind=8)||decide (c.kind=12)) lo hi=false)\/p)\/¬((c.text.b.length:Nat):Int)=0/\(¬c.kind=11\/16<((c.text.b.length:Nat):Int))))(a:lo=(mo c.kind).1)(d:hi=(mo c.kind).2)(i:p->Au c=false):1=aO c v:=by grind[acJ,Oe]
theorem aqE{c:b6}{v lo:Int}(e:aM v 1 3=true)(f:¬br c.kind=0)(g:br c.kind<=v)(h:lA c.a6 (!decide (c.kind=8)) 1 8=true)(i:lA c.seq (!decide (c.kind=8)&& !decide (c.kind=1)) 1 1048576=true)(j:lA c.set (aM c.kind 2 4) 1 8=true)(l:lA c.id (decide (c.kind=5)||decide (c.kind=7)||aM c.kind 9 11) 1 1048576=true)(m:lA c.n (decide (c.kind=6)||decide (c.kind=8)||decide (c.kind=12)) lo hi=true)(o:Au c=true)(p:((c.text.b.length:Nat):Int)=0\/c.kind=11/\((c.text.b.length:Nat):Int)<=16)(a:lo=(mo c.kind).1)(d:hi=(mo c.kind).2):0=aO c v:=by grind[alG,Oe]
def aha{c:b6}{b:Bool}(h:c.kind=3)(k:bO c.c6=b):Au c=b:=by rw[Au,O h];exact k
def ai_{c:b6}(h:¬c.kind=3)(k:¬((c.c6.length:Nat):Int)=0):Au c=false:=by rw[Au,X h];exact D7 k
def aaH{c:b6}(h:¬c.kind=3)(k:((c.c6.length:Nat):Int)=0):Au c=true:=by rw[Au,X h];exact F5 k
variable{b a:c5}
def aqr(h:((((¬a.bo=b.bo\/¬a.next=b.next)\/¬a.dc=b.dc)\/¬a.eR=b.eR)\/¬((a.c8.length:Nat):Int)=(b.c8.length:Nat))\/¬((a.eb.length:Nat):Int)=(b.eb.length:Nat)):false=decide (a=b):=by
 symm;apply D7;rintro rfl;simp at h
def apV{s:Nat}(h:¬(a.c8.getD s (c4 (.nm .c8))).a6=(b.c8.getD s (c4 (.nm .c8))).a6\/¬(a.c8.getD s (c4 (.nm .c8))).seq=(b.c8.getD s (c4 (.nm .c8))).seq\/¬(a.c8.getD s (c4 (.nm .c8))).last.code=(b.c8.getD s (c4 (.nm .c8))).last.code\/¬(a.c8.getD s (c4 (.nm .c8))).last.n=(b.c8.getD s (c4 (.nm .c8))).last.n):false=decide (a=b):=by
 symm;apply D7;rintro rfl;simp at h
def ard{s:Nat}(h:¬(a.eb.getD s (c4 (.nm .opn))).set=(b.eb.getD s (c4 (.nm .opn))).set\/¬(a.eb.getD s (c4 (.nm .opn))).a6=(b.eb.getD s (c4 (.nm .opn))).a6):false=decide (a=b):=by
 symm;apply D7;rintro rfl;simp at h
theorem We{x y:eS}(e:x.a6=y.a6)(f:x.seq=y.seq)(g:x.last.code=y.last.code)(h:x.last.n=y.last.n):x=y:=by
 obtain⟨a,b,⟨c,d⟩⟩:=x;obtain⟨i,j,⟨l,m⟩⟩:=y;simp_all
theorem abS{x y:n7}(c:x.set=y.set)(d:x.a6=y.a6):x=y:=by cases x;cases y;simp_all
def ajs{a b:List eS}{s:Nat}(h:a.take s=b.take s)(c:(a.getD s (c4 (.nm .c8))).a6=(b.getD s (c4 (.nm .c8))).a6)(d:(a.getD s (c4 (.nm .c8))).seq=(b.getD s (c4 (.nm .c8))).seq)(e:(a.getD s (c4 (.nm .c8))).last.code=(b.getD s (c4 (.nm .c8))).last.code)(f:(a.getD s (c4 (.nm .c8))).last.n=(b.getD s (c4 (.nm .c8))).last.n)(g:s<a.length)(i:s<b.length):a.take (s+1)=b.take (s+1):=xL h g i (We c d e f)
def al3{a b:List n7}{s:Nat}(h:a.take s=b.take s)(c:(a.getD s (c4 (.nm .opn))).set=(b.getD s (c4 (.nm .opn))).set)(d:(a.getD s (c4 (.nm .opn))).a6=(b.getD s (c4 (.nm .opn))).a6)(e:s<a.length)(f:s<b.length):a.take (s+1)=b.take (s+1):=xL h e f (abS c d)
theorem aoN{s q:Nat}(i:a.bo=b.bo)(j:a.next=b.next)(l:a.dc=b.dc)(m:a.eR=b.eR)(c:a.c8.take s=b.c8.take s)(d:a.eb.take q=b.eb.take q)(e:a.c8.length<=s)(f:b.c8.length<=s)(g:a.eb.length<=q)(h:b.eb.length<=q):decide (a.c3=b.c3)=decide (a=b):=by
 rw[take_of_length_le e,take_of_length_le f]at c;rw[take_of_length_le g,take_of_length_le h]at d;cases a;cases b;simp_all
variable{bi bn:Bool}
def ai4{c:b6}{v lo:Int}{p:Prop}(h:((((((lA c.a6 (!decide (c.kind=8)) 1 8=false\/lA c.seq (!decide (c.kind=8)&& !decide (c.kind=1)) 1 1048576=false)\/lA c.set (aM c.kind 2 4) 1 8=false)\/lA c.id bi 1 1048576=false)\/lA c.n bn lo hi=false)\/p)\/¬((c.text.b.length:Nat):Int)=0/\(¬c.kind=11\/16<((c.text.b.length:Nat):Int))))(i:aM v 1 3=true)(j:¬br c.kind=0)(l:br c.kind<=v)(d:bi=(decide (c.kind=5)||decide (c.kind=7)||aM c.kind 9 11))(e:bn=(decide (c.kind=6)||decide (c.kind=8)||decide (c.kind=12)))(f:lo=(mo c.kind).1)(g:hi=(mo c.kind).2)(m:p->Au c=false):1=aO c v:=by
 subst d;subst e;exact apx i j l h f g m
def ajP{c:b6}{v lo:Int}(h:aM v 1 3=true)(i:¬br c.kind=0)(j:br c.kind<=v)(l:lA c.a6 (!decide (c.kind=8)) 1 8=true)(m:lA c.seq (!decide (c.kind=8)&& !decide (c.kind=1)) 1 1048576=true)(o:lA c.set (aM c.kind 2 4) 1 8=true)(p:lA c.id bi 1 1048576=true)(q:lA c.n bn lo hi=true)(d:bi=(decide (c.kind=5)||decide (c.kind=7)||aM c.kind 9 11))(e:bn=(decide (c.kind=6)||decide (c.kind=8)||decide (c.kind=12)))(r:Au c=true)(s:((c.text.b.length:Nat):Int)=0\/c.kind=11/\((c.text.b.length:Nat):Int)<=16)(f:lo=(mo c.kind).1)(g:hi=(mo c.kind).2):0=aO c v:=by
 subst d;subst e;exact aqE h i j l m o p q r s f g
def aeL(a:c5)(b:c5):List (Nat×LI):=[(4,{σ:=Nat,F:=λk=>([(2,one (.ptr 0 0)),(3,one (.ptr 1 0)),(5,one (.int k))],[.box 56 (cellsOf (.nm .state) a),.box 56 (cellsOf (.nm .state) b)]),J:=λk=>k<=a.c8.length/\a.c8.take k=b.c8.take k,μ:=λk=>a.c8.length-k}),(9,{σ:=Nat,F:=λk=>([(2,one (.ptr 0 0)),(3,one (.ptr 1 0)),(6,one (.int k))],[.box 56 (cellsOf (.nm .state) a),.box 56 (cellsOf (.nm .state) b)]),J:=λk=>k<=a.eb.length/\a.eb.take k=b.eb.take k,μ:=λk=>a.eb.length-k})]
def abB:CK 96 (aD uB av λ(c,v,_) _=>{rs:=[.c (.int (aO c v))]}):=ag λ(c,v,_) _ _=>by
 refine al u_ [] func96 (?_:(λF B G D f J I g i d=>(λC=>(λH=>(λK q24=>(λL k=>(λj l h=>(λm=>(λe o y V=>(λP Q b=>(λS T z A R=>(λp q r s n=>(λt u a=>(λw x=>(λZ=>bf c (W v->(aM v f D=true->W C)->(aM v f D=false\/C=i->o)/\(aM v f D=true/\¬C=i->W C->(v<C->10=aO c v)/\(C<=v->(d=5->Z)/\(¬d=5->(d=7->Z)/\(¬d=7->(d=g->(d=B->(h->(((w\/r=false)\/l)\/A->o)/\(((t/\r=true)/\j)/\z->e))/\(m->(((w\/r=false)\/¬y)\/A->o)/\(((t/\r=true)/\y)/\z->e)))/\(H->(h->(((w\/s=false)\/l)\/A->o)/\(((t/\s=true)/\j)/\z->e))/\(m->(((w\/s=false)\/¬y)\/A->o)/\(((t/\s=true)/\y)/\z->e))))/\(¬d=g->(d=B->(h->(((w\/q=false)\/l)\/A->o)/\(((t/\q=true)/\j)/\z->e))/\(m->(((w\/q=false)\/¬y)\/A->o)/\(((t/\q=true)/\y)/\z->e)))/\(H->(h->(((w\/p=false)\/l)\/A->o)/\(((t/\p=true)/\j)/\z->e))/\(m->(((w\/p=false)\/¬y)\/A->o)/\(((t/\p=true)/\y)/\z->e)))))))))) ((d=g->(d=B->(h->(((x\/r=false)\/l)\/A->o)/\(((u/\r=true)/\j)/\z->e))/\(m->(((x\/r=false)\/¬y)\/A->o)/\(((u/\r=true)/\y)/\z->e)))/\(H->(h->(((x\/s=false)\/l)\/A->o)/\(((u/\s=true)/\j)/\z->e))/\(m->(((x\/s=false)\/¬y)\/A->o)/\(((u/\s=true)/\y)/\z->e))))/\(¬d=g->(d=B->(h->(((x\/q=false)\/l)\/A->o)/\(((u/\q=true)/\j)/\z->e))/\(m->(((x\/q=false)\/¬y)\/A->o)/\(((u/\q=true)/\y)/\z->e)))/\(H->(h->(((x\/p=false)\/l)\/A->o)/\(((u/\p=true)/\j)/\z->e))/\(m->(((x\/p=false)\/¬y)\/A->o)/\(((u/\p=true)/\y)/\z->e)))))) (a\/T) (a\/Q)) (n/\S) (n/\P) ((lA c.a6 (!q24) f g=false\/L=false)\/K=false)) (lA F R i g) (lA F R i J) (lA F R I J) (lA F R I D) ((lA c.a6 (!q24) f g=true/\L=true)/\K=true)) (b=true) (b=false) (G=i\/d=11/\G<=16) (¬G=i/\(¬d=11\/16<G)) (decide (d=6)||q24||decide (d=B))) (V=true) (V=false) (lA c.id (aM d 9 11) f 1048576)) (i=aO c v) (f=aO c v) ((c.c6.length:Int)=i) (lA c.id true f 1048576)) ¬h) (k=true) (k=false) (d=D)) (lA c.seq (!q24&& !decide (d=f)) f 1048576) (bO c.c6)) (lA c.set (aM d I 4) f g) (decide (d=g))) ¬d=B) (br d)) c.n (12:Int) (c.text.b.length:Int) (3:Int) (1:Int) (64:Int) (2:Int) (8:Int) (0:Int) c.kind);repeat' first|(with_reducible first|apply aH|refine aI ?_|intro)|exact aZ|exact aqH Y|exact aiA Y Y N|exact ai4 ap Y Y N (by first|rfl|simp[*]) (by first|rfl|simp[*]) (by simp only[mo];(repeat split)<;>omega) (by simp only[mo];(repeat split)<;>omega) (λU=>by first|exact aha Y U|exact ai_ Y U|exact aaH Y U)|exact ajP Y Y N Y Y Y Y Y (by first|rfl|simp[*]) (by first|rfl|simp[*]) (by first|exact aha Y Y|exact aaH Y Y) N (by simp only[mo];(repeat split)<;>omega) (by simp only[mo];(repeat split)<;>omega)
theorem Yt:CK 56 (aD (ak qK (ak qK bS)) av λ(a,b,_) _=>{rs:=[.c (.bool (.atom (decide (a=b))))]}):=ag λ(a,b,_) _ _=>by
 refine al u_ (aeL a b) func56 (?_:(λ(q:Int)(o:List eS)(u:Prop)(p:List n7)(t:Prop)(j:List eS)=>(λ(r:Int)(l:List n7)=>(λ(h:Int)=>(λ(w:l7 (Sh.nm NT.opn))=>(λ(x:l7 (Sh.nm NT.c8))=>cK a (cK b ((((((¬a.bo=b.bo\/¬a.next=b.next)\/¬a.dc=b.dc)\/¬a.eR=b.eR)\/¬r=(o.length:Int))\/¬h=(p.length:Int)->u)/\(((((a.bo=b.bo/\a.next=b.next)/\a.dc=b.dc)/\a.eR=b.eR)/\r=(o.length:Int))/\h=(p.length:Int)->∃(m:Nat),(q=(m:Int)/\t)/\(m<=j.length/\take m j=take m o)/\∀(s:Nat),(λ(d:l7 (Sh.nm NT.c8))=>(λ(e:l7 (Sh.nm NT.c8))=>s<=j.length/\take s j=take s o->((s:Int)<r->(q<=(s:Int)/\(s:Int)<r)/\(q<=(s:Int)/\(s:Int)<(o.length:Int))/\dL d (dL e ((¬d.a6=e.a6\/¬d.seq=e.seq\/¬d.last.code=e.last.code\/¬d.last.n=e.last.n->u)/\(af6 d e->W ((s:Int)+1)/\∃(i:Nat),((s:Int)+1=(i:Int)/\t)/\(i<=j.length/\take i j=take i o)/\j.length-i<j.length-s))))/\(r<=(s:Int)->∃(m:Nat),(q=(m:Int)/\t)/\(m<=l.length/\take m l=take m p)/\∀(s:Nat),(λ(f:l7 (Sh.nm NT.opn))=>(λ(g:l7 (Sh.nm NT.opn))=>s<=l.length/\take s l=take s p->((s:Int)<h->(q<=(s:Int)/\(s:Int)<h)/\(q<=(s:Int)/\(s:Int)<(p.length:Int))/\(W f.set->W f.a6->W g.set->W g.a6->(¬f.set=g.set\/¬f.a6=g.a6->u)/\(f.set=g.set/\f.a6=g.a6->W ((s:Int)+1)/\∃(i:Nat),((s:Int)+1=(i:Int)/\t)/\(i<=l.length/\take i l=take i p)/\l.length-i<l.length-s)))/\(h<=(s:Int)->decide (a.c3=b.c3)=decide (a=b))) (p.getD s w)) (l.getD s w))) (o.getD s x)) (j.getD s x))))) (c4 (Sh.nm NT.c8))) (c4 (Sh.nm NT.opn))) (l.length:Int)) (j.length:Int) a.eb) 0 b.c8 (false=decide (a=b)) b.eb (aw a a (cg b b)) a.c8);(repeat' with_reducible first|apply aH|refine aI ?_|intro)
 all_goals try(refine⟨0,?_⟩;(repeat' with_reducible first|apply aH|refine aI ?_|intro))
 all_goals try(have v:(‹Nat›:Int)<(a.c8.length:Int):=N;clear v;refine⟨‹Nat›+1,?_⟩;(repeat' with_reducible first|apply aH|refine aI ?_|intro))
 all_goals try(have v:((a.c8.length:Nat):Int)<=(‹Nat›:Int):=N;clear v;refine⟨0,?_⟩;(repeat' with_reducible first|apply aH|refine aI ?_|intro))
 all_goals try(refine⟨‹Nat›+1,?_⟩;(repeat' with_reducible first|apply aH|refine aI ?_|intro))
 all_goals(first|exact aZ|exact rfl|exact(aqr ap)|exact(apV ap)|exact(ard ap)|exact(ajs Y Y Y Y Y N N)|exact(al3 Y Y Y N N)|exact(aoN Y Y Y Y Y Y N N N N))
def mH:=(ae Yt (ae abB u_))
def gV(d:List Int)(c:Int):Bool:=decide (0<d.getD c.toNat (c4 .int))
def gM(d e:List Int)(c:Int):Bool:=decide (0<d.getD c.toNat (c4 .int))&&decide (e.getD c.toNat (c4 .int)=0)
def nD(p:Int->Bool)(k:Nat):List Int:=((range k).map λ(i:Nat)=>(i:Int)+1).filter p
def ahf{p:Int->Bool}(h:p ((k:Int)+1)=true):nD p k++[(k:Int)+1]=nD p (k+1):=by
 unfold nD;rw[K8,L0,F4];simp[h]
def alg{p:Int->Bool}(h:p ((k:Int)+1)=false):nD p k=nD p (k+1):=by
 unfold nD;rw[K8,L0,F4];simp[h]
def amc{p:Int->Bool}(h:k<=64)(c:64<(k:Int)+1):nD p k=nD p 64:=by rw[show k=64 by omega]
def RU{p:Int->Bool}(h:k<=64):((nD p k).length+[n].length)*8<=140737488355328:=by
 have:=N8 p ((range k).map λ(i:Nat)=>(i:Int)+1);rw[K9,Y3]at this;unfold nD;simp;omega
def df(l:List ie):List Int:=l.foldl (λt x=>fJ t x.c6) (replicate 65 0)
theorem ui:∀(l c:List Int),(fJ c l).length=c.length
 |[],_=>rfl
 |n::l,c=>by
  show(fJ (if 1<=n/\n<=64 then c.set n.toNat (c.getD n.toNat 0+1)else c) l).length=_;rw[ui l];split
  .grind
  rfl
variable{x:ie}{l:List ie}
def mI:df (l++[x])=fJ (df l) x.c6:=by unfold df;rw[K0];rfl
def acn(c:l[k]? =some x):fJ (df (l.take k)) x.c6=df (l.take (k+1)):=by rw[ah c,mI]
theorem zf{p:List ie->Prop}(c:p [])(d:∀l x,p l->p (l++[x]))(l:List ie):p l:=by
 have:∀r:List ie,p r.reverse:=λr=>by
  induction r with
  |nil=>exact c
  |cons x r e=>rw[List.reverse_cons];exact d _ _ e
 have h:=this l.reverse;grind
def lY(l:List ie):(df l).length=65:=by
 refine zf (p:=λl=>(df l).length=65) rfl (λl x h=>?_) l;rw[mI,ui,h]
def Dr:tt (l++[x])=tt l+x.c6.length:=by unfold tt;simp
theorem Tq(l:List ie)(i:Nat):0<=(df l).getD i 0/\(df l).getD i 0<=tt l:=by
 refine zf (p:=λl=>0<=(df l).getD i 0/\(df l).getD i 0<=tt l) ?_ (λl x h=>?_) l
 .show 0<=(replicate 65 (0:Int)).getD i 0/\(replicate 65 (0:Int)).getD i 0<=_;grind
 have:=Fv x.c6 (df l) i;rw[mI,Dr];omega
def Iw(c:l[k]? =some x)(h:tt l<=1048576):GP (df (l.take k)) x.c6:=λi=>by
 have e:=Tq (l.take k) i;have d:tt (l.take (k+1))<=tt l:=by
  unfold tt;rw[<-E7 (k+1) l,Q8,s8,E7];omega
 rw[ah c,Dr]at d;omega
def Gx{m:List Int}{s:Sh}(h:tt l<=1048576)(c:m.length*8<=140737488355328):GP (DU .int (df l) 0 65) m:=λi=>by
 rw[lR (lY l)];have d:=Tq l i;omega
theorem GO:∀(l d:List Int) (c:Int),1<=c->c<=64->d.length=65->(fJ d l).getD c.toNat 0=d.getD c.toNat 0+(l.count c:Nat)
 |[],_,_,_,_,_=>by simp[fJ]
 |n::l,d,c,f,g,e=>by
  show(fJ (if 1<=n/\n<=64 then d.set n.toNat (d.getD n.toNat 0+1)else d) l).getD c.toNat 0=_;rw[GO l _ c f g (by split;rw[B1,e];exact e),List.count_cons];split
  .grind
  grind
def Ef(l:List ie)(c:Int)(d:1<=c)(e:c<=64):(df l).getD c.toNat 0=(dP c l:Nat):=by
 refine zf (p:=λl=>(df l).getD c.toNat 0=(dP c l:Nat)) ?_ (λl x h=>?_) l
 .show(replicate 65 (0:Int)).getD c.toNat 0=_;rw[getD_eq_getElem?_getD,List.getElem?_replicate];split<;>simp[dP]
 rw[mI,GO _ _ _ d e (lY l),h];unfold dP;simp
theorem HS(l:List ie):((nD (gV (df l)) 64).length:Int)=(eX l:Int):=by
 unfold nD eX fG;rw[List.filter_map,K9];congr 2;apply List.filter_congr;intro i hi;rw[K2]at hi;have:=Ef l ((i:Int)+1) N N;simp only[Function.comp,gV];rw[show(c4 .int)=(0:Int)from rfl,this];grind
theorem S_(l m:List ie)(id:Int)(e:m=aU id l):nD (gM (df l) (df m)) 64=iy l id:=by
 subst e;unfold nD iy eN;rw[List.filter_map];congr 1;apply List.filter_congr;intro i hi;rw[K2]at hi;have c:=Ef l ((i:Int)+1) N N;have d:=Ef (aU id l) ((i:Int)+1) N N;simp only[Function.comp,gM];rw[show(c4 .int)=(0:Int)from rfl,c,d];grind
def ach(l:List ie):List (Nat×LI):=[(3,{σ:=Nat,F:=λk=>([(2,one (.ptr 0 0)),(3,one (.ptr 1 0)),(6,one (.fz (.nm .snap) l)),(7,one (.int l.length)),(8,one (.int k))],[.A8 332 .int 65 (replicate 65 0),.A8 332 .int 65 (df (l.take k))]),J:=λk=>k<=l.length,μ:=λk=>l.length-k})]
def Pq(l:List ie)(id:Int):List (Nat×LI):=[(3,{σ:=Nat,F:=λk=>([(1,one (.int id)),(5,one (.own 0)),(8,one (.fz (.nm .snap) l)),(9,one (.int l.length)),(10,one (.int k))],[.row 125 (.nm .snap) (aU id (l.take k))]),J:=λk=>k<=l.length,μ:=λk=>l.length-k})]
theorem Xj:CK 355 (aD (ak dj dA) Bz λ(n,_,_) (d,_)=>{pre:=[0<=n/\n<65],rs:=[.c (.bool (.atom (gV d n)))]}):=ag λ(n,_,_) (d,_) e=>by
 have f:=bw e;refine al mH [] func355 (?_:W n->(0:Int)<=n/\n<(↑(65:Nat):Int)/\n.toNat<(65:Nat)/\(W (d.getD n.toNat (c4 Sh.int))->decide ((0:Int)<d.getD n.toNat (c4 Sh.int))=gV d n));(repeat' with_reducible first|apply aH|refine aI ?_|intro)<;>first|(first|with_reducible rfl|with_reducible assumption|omega|(refine aY ?_ ?_<;>omega))|rfl
theorem Rq:CK 356 (aD (ak dj wH) (bl (afa 332 .int 65) Bz) λ(n,_,_,_) (f,e,_)=>{pre:=[0<=n/\n<65],rs:=[.c (.bool (.atom (gM f e n)))]}):=ag λ(n,_,_,_) (f,e,_) h=>by
 have i:=bw h;refine al mH [] func356 (?_:(λd g=>W n->d<=n/\n<(↑(65:Nat):Int)/\n.toNat<(65:Nat)/\(W g->(d<g->d<=n/\n<(↑(65:Nat):Int)/\n.toNat<(65:Nat))/\((d<g->W (e.getD n.toNat (c4 Sh.int)))->(decide (d<g)&&decide (e.getD n.toNat (c4 Sh.int)=d))=gM f e n))) (0:Int) (f.getD n.toNat (c4 Sh.int)));(repeat' with_reducible first|apply aH|refine aI ?_|intro)<;>first|(first|with_reducible rfl|with_reducible assumption|omega|(refine aY ?_ ?_<;>omega))|rfl
theorem YS:CK 339 (aD (ak l_ bS) av λ(l,_) _=>{pre:=[tt l<=1048576],rs:=[.agg (zn .int (df l) 0 65)]}):=ag λ(l,_) _ r=>by
 have t:=bw r;refine al mH (ach l) func339 (?_:(λ(g:Nat)(e:List Int)(o:Nat)(h:Nat)(d:Int)(c:l7 Sh.int)=>(λ(q:List (l7 Sh.int))=>l.length*64<=140737488355328->∃(p:Nat),(l=l/\(l.length:Int)=(g:Int)/\d=(p:Int)/\q=replicate h (0:l7 Sh.int)/\q=df (take p l))/\p<=g/\∀(s:Nat),(λ(j:List Int)=>(λ(f:List (l7 Sh.int))=>s<=g->((s:Int)<(g:Int)->d<=(s:Int)/\(s:Int)<(l.length:Int)/\∀(x:ie),l[s]? =some x->bY x ((∀(i:Nat),d<=j.getD i d/\j.getD i d+(x.c6.length:Int)<=4611686018427387904)/\W ((s:Int)+1)/\∃(m:Nat),(l=l/\(g:Int)=(g:Int)/\(s:Int)+1=(m:Int)/\replicate h (0:l7 Sh.int)=replicate h (0:l7 Sh.int)/\fJ j x.c6=df (take m l))/\m<=g/\g-m<g-s))/\((g:Int)<=(s:Int)->f.getD o c=e.getD o c/\f.getD 1 c=e.getD 1 c/\f.getD 2 c=e.getD 2 c/\f.getD 3 c=e.getD 3 c/\f.getD 4 c=e.getD 4 c/\f.getD 5 c=e.getD 5 c/\f.getD 6 c=e.getD 6 c/\f.getD 7 c=e.getD 7 c/\f.getD 8 c=e.getD 8 c/\f.getD 9 c=e.getD 9 c/\f.getD 10 c=e.getD 10 c/\f.getD 11 c=e.getD 11 c/\f.getD 12 c=e.getD 12 c/\f.getD 13 c=e.getD 13 c/\f.getD 14 c=e.getD 14 c/\f.getD 15 c=e.getD 15 c/\f.getD 16 c=e.getD 16 c/\f.getD 17 c=e.getD 17 c/\f.getD 18 c=e.getD 18 c/\f.getD 19 c=e.getD 19 c/\f.getD 20 c=e.getD 20 c/\f.getD 21 c=e.getD 21 c/\f.getD 22 c=e.getD 22 c/\f.getD 23 c=e.getD 23 c/\f.getD 24 c=e.getD 24 c/\f.getD 25 c=e.getD 25 c/\f.getD 26 c=e.getD 26 c/\f.getD 27 c=e.getD 27 c/\f.getD 28 c=e.getD 28 c/\f.getD 29 c=e.getD 29 c/\f.getD 30 c=e.getD 30 c/\f.getD 31 c=e.getD 31 c/\f.getD 32 c=e.getD 32 c/\f.getD 33 c=e.getD 33 c/\f.getD 34 c=e.getD 34 c/\f.getD 35 c=e.getD 35 c/\f.getD 36 c=e.getD 36 c/\f.getD 37 c=e.getD 37 c/\f.getD 38 c=e.getD 38 c/\f.getD 39 c=e.getD 39 c/\f.getD 40 c=e.getD 40 c/\f.getD 41 c=e.getD 41 c/\f.getD 42 c=e.getD 42 c/\f.getD 43 c=e.getD 43 c/\f.getD 44 c=e.getD 44 c/\f.getD 45 c=e.getD 45 c/\f.getD 46 c=e.getD 46 c/\f.getD 47 c=e.getD 47 c/\f.getD 48 c=e.getD 48 c/\f.getD 49 c=e.getD 49 c/\f.getD 50 c=e.getD 50 c/\f.getD 51 c=e.getD 51 c/\f.getD 52 c=e.getD 52 c/\f.getD 53 c=e.getD 53 c/\f.getD 54 c=e.getD 54 c/\f.getD 55 c=e.getD 55 c/\f.getD 56 c=e.getD 56 c/\f.getD 57 c=e.getD 57 c/\f.getD 58 c=e.getD 58 c/\f.getD 59 c=e.getD 59 c/\f.getD 60 c=e.getD 60 c/\f.getD 61 c=e.getD 61 c/\f.getD 62 c=e.getD 62 c/\f.getD 63 c=e.getD 63 c/\f.getD 64 c=e.getD 64 c)) (DU Sh.int j o h)) (df (take s l))) [d,d,d,d,d,d,d,d,d,d,d,d,d,d,d,d,d,d,d,d,d,d,d,d,d,d,d,d,d,d,d,d,d,d,d,d,d,d,d,d,d,d,d,d,d,d,d,d,d,d,d,d,d,d,d,d,d,d,d,d,d,d,d,d,d]) l.length (df l) 0 65 0 (c4 Sh.int));repeat' first|(with_reducible first|apply aH|refine aI ?_|intro)|exact aZ|exact rfl|exact(acn Y)|exact(Iw Y Y _).1|exact(Iw Y Y _).2|exact(by rw[lR (lY _),take_of_length_le N])|refine⟨‹Nat›+1,?_⟩|refine⟨0,?_⟩
theorem LU:CK 342 (aD yc av λ(l,id,_) _=>⟨[],[.c (.own 0)],some ([.row 125 (.nm .snap) (aU id l)]),true⟩):=ag λ(l,id,_) _ _=>by
 refine bU mH (Pq l id) func342 (?_:(λ(d:Nat)=>(λ(f:Int)=>l.length*64<=140737488355328->W id->∃(i:Nat),(id=id/\l=l/\(l.length:Int)=f/\0=(i:Int)/\aU id (take i l)=[])/\i<=d/\∀(s:Nat),(λ(g:List ie)(h:Int)=>s<=d->((s:Int)<f->0<=(s:Int)/\(s:Int)<(l.length:Int)/\∀(x:ie),l[s]? =some x->bY x ((¬x.id=id->x.c6.length*8<=140737488355328->(g.length+[x].length)*64<=140737488355328/\W h/\∃(e:Nat),(id=id/\l=l/\f=f/\h=(e:Int)/\g++[x]=aU id (take e l))/\e<=d/\d-e<d-s)/\(x.id=id->W h/\∃(e:Nat),(id=id/\l=l/\f=f/\h=(e:Int)/\g=aU id (take e l))/\e<=d/\d-e<d-s)))/\(f<=(s:Int)->g=aU id l)) (aU id (take s l)) ((s:Int)+1)) (d:Int)) l.length);repeat' first|(with_reducible first|apply aH|refine aI ?_|intro)|exact aZ|exact rfl|exact(QM Y Y Y)|exact(NF Y Y)|exact(EK N)|exact(Ff N N)|refine⟨‹Nat›+1,?_⟩|refine⟨0,?_⟩
def uh:=(ae LU (ae YS (ae Rq (ae Xj mH))))
def Rj(c:List Int):List (Nat×LI):=[(3,{σ:=Nat,F:=λk=>([(0,one (.fn 355 [] [(0,0)])),(3,one (.own 1)),(4,one (.int (k+1)))],[.A8 332 .int 65 c,.row 3 .int (nD (gV c) k)]),J:=λk=>k<=64,μ:=λk=>64-k})]
def Ov(c:List Int)(d:List Int):List (Nat×LI):=[(3,{σ:=Nat,F:=λk=>([(0,one (.fn 356 [] [(0,0),(1,0)])),(3,one (.own 2)),(4,one (.int (k+1)))],[.A8 332 .int 65 c,.A8 332 .int 65 d,.row 3 .int (nD (gM c d) k)]),J:=λk=>k<=64,μ:=λk=>64-k})]
theorem Ku:CK 354 (aD (ak (kC (ub 355 [] [(0,0)])) bS) Bz λ_ (d,_)=>{rs:=[.c (.fz .int (nD (gV d) 64))]}):=ag λ_ (d,_) _=>by
 refine al uh (Rj d) func354 (?_:(λ(f:Nat)(g:Int)=>∃(j:Nat),(g=(j:Int)+g/\d=d/\nD (gV d) j=[])/\j<=f/\∀(s:Nat),(λ(i:List Int)(e:Int)=>s<=f->(e<=64->(0<=e/\e<65)/\(gV d e=true->(i.length+[e].length)*8<=140737488355328/\W (e+g)/\∃(h:Nat),(e+g=(h:Int)+g/\d=d/\i++[e]=nD (gV d) h)/\h<=f/\f-h<f-s)/\(gV d e=false->W (e+g)/\∃(h:Nat),(e+g=(h:Int)+g/\d=d/\i=nD (gV d) h)/\h<=f/\f-h<f-s))/\(64<e->i=nD (gV d) f)) (nD (gV d) s) ((s:Int)+g)) 64 1);repeat' first|(with_reducible first|apply aH|refine aI ?_|intro)|exact aZ|exact rfl|exact(ahf Y)|exact(alg Y)|exact(amc N N)|exact(RU N)|exact(And.intro N N)|refine⟨‹Nat›+1,?_⟩|refine⟨0,?_⟩
theorem LZ:CK 354 (aD (ak (kC (ub 356 [] [(0,0),(1,0)])) bS) (bl (afa 332 .int 65) Bz) λ_ (d,e,_)=>{rs:=[.c (.fz .int (nD (gM d e) 64))]}):=ag λ_ (d,e,_) _=>by
 refine al uh (Ov d e) func354 (?_:(λ(g:Nat)(h:Int)=>∃(m:Nat),(h=(m:Int)+h/\d=d/\e=e/\nD (gM d e) m=[])/\m<=g/\∀(s:Nat),(λ(j:List Int)(f:Int)=>s<=g->(f<=64->(0<=f/\f<65)/\(gM d e f=true->(j.length+[f].length)*8<=140737488355328/\W (f+h)/\∃(i:Nat),(f+h=(i:Int)+h/\d=d/\e=e/\j++[f]=nD (gM d e) i)/\i<=g/\g-i<g-s)/\(gM d e f=false->W (f+h)/\∃(i:Nat),(f+h=(i:Int)+h/\d=d/\e=e/\j=nD (gM d e) i)/\i<=g/\g-i<g-s))/\(64<f->j=nD (gM d e) g)) (nD (gM d e) s) ((s:Int)+h)) 64 1);repeat' first|(with_reducible first|apply aH|refine aI ?_|intro)|exact aZ|exact rfl|exact(ahf Y)|exact(alg Y)|exact(amc N N)|exact(RU N)|exact(And.intro N N)|refine⟨‹Nat›+1,?_⟩|refine⟨0,?_⟩
def wQ:=(ae LZ (ae Ku uh))
theorem aeT:CK 338 (aD (ak (kA .int 65) bS) av λ(d,_) _=>{pre:=[d.length=65],rs:=[.c (.fz .int (nD (gV d) 64))]}):=ag λ(d,_) _ h=>by
 have f:=bw h;refine al wQ [] func338 (?_:(λg e=>W (d.getD 0 e)->W (d.getD 1 e)->W (d.getD 2 e)->W (d.getD 3 e)->W (d.getD 4 e)->W (d.getD 5 e)->W (d.getD 6 e)->W (d.getD 7 e)->W (d.getD 8 e)->W (d.getD 9 e)->W (d.getD 10 e)->W (d.getD 11 e)->W (d.getD 12 e)->W (d.getD 13 e)->W (d.getD 14 e)->W (d.getD 15 e)->W (d.getD 16 e)->W (d.getD 17 e)->W (d.getD 18 e)->W (d.getD 19 e)->W (d.getD 20 e)->W (d.getD 21 e)->W (d.getD 22 e)->W (d.getD 23 e)->W (d.getD 24 e)->W (d.getD 25 e)->W (d.getD 26 e)->W (d.getD 27 e)->W (d.getD 28 e)->W (d.getD 29 e)->W (d.getD 30 e)->W (d.getD 31 e)->W (d.getD 32 e)->W (d.getD 33 e)->W (d.getD 34 e)->W (d.getD 35 e)->W (d.getD 36 e)->W (d.getD 37 e)->W (d.getD 38 e)->W (d.getD 39 e)->W (d.getD 40 e)->W (d.getD 41 e)->W (d.getD 42 e)->W (d.getD 43 e)->W (d.getD 44 e)->W (d.getD 45 e)->W (d.getD 46 e)->W (d.getD 47 e)->W (d.getD 48 e)->W (d.getD 49 e)->W (d.getD 50 e)->W (d.getD 51 e)->W (d.getD 52 e)->W (d.getD 53 e)->W (d.getD 54 e)->W (d.getD 55 e)->W (d.getD 56 e)->W (d.getD 57 e)->W (d.getD 58 e)->W (d.getD 59 e)->W (d.getD 60 e)->W (d.getD 61 e)->W (d.getD 62 e)->W (d.getD 63 e)->W (d.getD 64 e)->g.length*8<=140737488355328->g=nD (gV d) 64) (nD (gV (DU Sh.int d 0 65)) 64) (c4 Sh.int));repeat' first|(with_reducible first|apply aH|refine aI ?_|intro)|exact aZ|exact(by rw[lR f])|exact(by rw[lR f];assumption)
def PS:CK 341 (aD yc av λ(l,id,_) _=>{pre:=[tt l<=1048576],rs:=[.c (.fz .int (iy l id))]}):=ag λ(l,id,_) _ i=>by
 have j:=bw i;refine al wQ [] func341 (?_:(λg e d f=>(λh=>l.length*64<=140737488355328->W id->tt l<=1048576/\(W (e.getD g d)->W (e.getD 1 d)->W (e.getD 2 d)->W (e.getD 3 d)->W (e.getD 4 d)->W (e.getD 5 d)->W (e.getD 6 d)->W (e.getD 7 d)->W (e.getD 8 d)->W (e.getD 9 d)->W (e.getD 10 d)->W (e.getD 11 d)->W (e.getD 12 d)->W (e.getD 13 d)->W (e.getD 14 d)->W (e.getD 15 d)->W (e.getD 16 d)->W (e.getD 17 d)->W (e.getD 18 d)->W (e.getD 19 d)->W (e.getD 20 d)->W (e.getD 21 d)->W (e.getD 22 d)->W (e.getD 23 d)->W (e.getD 24 d)->W (e.getD 25 d)->W (e.getD 26 d)->W (e.getD 27 d)->W (e.getD 28 d)->W (e.getD 29 d)->W (e.getD 30 d)->W (e.getD 31 d)->W (e.getD 32 d)->W (e.getD 33 d)->W (e.getD 34 d)->W (e.getD 35 d)->W (e.getD 36 d)->W (e.getD 37 d)->W (e.getD 38 d)->W (e.getD 39 d)->W (e.getD 40 d)->W (e.getD 41 d)->W (e.getD 42 d)->W (e.getD 43 d)->W (e.getD 44 d)->W (e.getD 45 d)->W (e.getD 46 d)->W (e.getD 47 d)->W (e.getD 48 d)->W (e.getD 49 d)->W (e.getD 50 d)->W (e.getD 51 d)->W (e.getD 52 d)->W (e.getD 53 d)->W (e.getD 54 d)->W (e.getD 55 d)->W (e.getD 56 d)->W (e.getD 57 d)->W (e.getD 58 d)->W (e.getD 59 d)->W (e.getD 60 d)->W (e.getD 61 d)->W (e.getD 62 d)->W (e.getD 63 d)->W (e.getD 64 d)->tt (aU id l)<=1048576/\(W (f.getD g d)->W (f.getD 1 d)->W (f.getD 2 d)->W (f.getD 3 d)->W (f.getD 4 d)->W (f.getD 5 d)->W (f.getD 6 d)->W (f.getD 7 d)->W (f.getD 8 d)->W (f.getD 9 d)->W (f.getD 10 d)->W (f.getD 11 d)->W (f.getD 12 d)->W (f.getD 13 d)->W (f.getD 14 d)->W (f.getD 15 d)->W (f.getD 16 d)->W (f.getD 17 d)->W (f.getD 18 d)->W (f.getD 19 d)->W (f.getD 20 d)->W (f.getD 21 d)->W (f.getD 22 d)->W (f.getD 23 d)->W (f.getD 24 d)->W (f.getD 25 d)->W (f.getD 26 d)->W (f.getD 27 d)->W (f.getD 28 d)->W (f.getD 29 d)->W (f.getD 30 d)->W (f.getD 31 d)->W (f.getD 32 d)->W (f.getD 33 d)->W (f.getD 34 d)->W (f.getD 35 d)->W (f.getD 36 d)->W (f.getD 37 d)->W (f.getD 38 d)->W (f.getD 39 d)->W (f.getD 40 d)->W (f.getD 41 d)->W (f.getD 42 d)->W (f.getD 43 d)->W (f.getD 44 d)->W (f.getD 45 d)->W (f.getD 46 d)->W (f.getD 47 d)->W (f.getD 48 d)->W (f.getD 49 d)->W (f.getD 50 d)->W (f.getD 51 d)->W (f.getD 52 d)->W (f.getD 53 d)->W (f.getD 54 d)->W (f.getD 55 d)->W (f.getD 56 d)->W (f.getD 57 d)->W (f.getD 58 d)->W (f.getD 59 d)->W (f.getD 60 d)->W (f.getD 61 d)->W (f.getD 62 d)->W (f.getD 63 d)->W (f.getD 64 d)->h.length*8<=140737488355328->h=iy l id))) (nD (gM (DU Sh.int e g 65) (DU Sh.int f g 65)) 64)) (0:Nat) (df l) (c4 Sh.int) (df (aU id l)))
 repeat' first|(with_reducible first|apply aH|refine aI ?_|intro)|exact aZ|exact(Th ap)|exact(by rw[lR (lY _),lR (lY _)];exact S_ _ _ _ rfl)
def wA:=(ae PS (ae aeT wQ))
def CA:CK 297 (aD (ak l_ bS) av λ(l,_) _=>{pre:=[tt l<=1048576],rs:=[.c (.int (eX l:Int))]}):=ag λ(l,_) _ g=>by
 have h:=bw g;refine al wA [] func297 (?_:(λ(e:l7 Sh.int)(d:List Int)=>(λ(f:Nat)=>l.length*64<=140737488355328->tt l<=1048576/\(W (d.getD 0 e)->W (d.getD 1 e)->W (d.getD 2 e)->W (d.getD 3 e)->W (d.getD 4 e)->W (d.getD 5 e)->W (d.getD 6 e)->W (d.getD 7 e)->W (d.getD 8 e)->W (d.getD 9 e)->W (d.getD 10 e)->W (d.getD 11 e)->W (d.getD 12 e)->W (d.getD 13 e)->W (d.getD 14 e)->W (d.getD 15 e)->W (d.getD 16 e)->W (d.getD 17 e)->W (d.getD 18 e)->W (d.getD 19 e)->W (d.getD 20 e)->W (d.getD 21 e)->W (d.getD 22 e)->W (d.getD 23 e)->W (d.getD 24 e)->W (d.getD 25 e)->W (d.getD 26 e)->W (d.getD 27 e)->W (d.getD 28 e)->W (d.getD 29 e)->W (d.getD 30 e)->W (d.getD 31 e)->W (d.getD 32 e)->W (d.getD 33 e)->W (d.getD 34 e)->W (d.getD 35 e)->W (d.getD 36 e)->W (d.getD 37 e)->W (d.getD 38 e)->W (d.getD 39 e)->W (d.getD 40 e)->W (d.getD 41 e)->W (d.getD 42 e)->W (d.getD 43 e)->W (d.getD 44 e)->W (d.getD 45 e)->W (d.getD 46 e)->W (d.getD 47 e)->W (d.getD 48 e)->W (d.getD 49 e)->W (d.getD 50 e)->W (d.getD 51 e)->W (d.getD 52 e)->W (d.getD 53 e)->W (d.getD 54 e)->W (d.getD 55 e)->W (d.getD 56 e)->W (d.getD 57 e)->W (d.getD 58 e)->W (d.getD 59 e)->W (d.getD 60 e)->W (d.getD 61 e)->W (d.getD 62 e)->W (d.getD 63 e)->W (d.getD 64 e)->(DU Sh.int d 0 65).length=65/\(f*8<=140737488355328->(f:Int)=(↑(eX l):Int)))) (nD (gV (DU Sh.int d 0 65)) 64).length) (c4 Sh.int) (df l));repeat' first|(with_reducible first|apply aH|refine aI ?_|intro)|exact aZ|exact(ud 65 0)|exact(by rw[lR (lY _)];exact HS _)
def Zr:CK 336 (aD (ak l_ iS) av λ(l,m,_) _=>{pre:=[tt l<=1048576],rs:=[.c (.int (eX (l++[⟨0,0,m,false,⟨[]⟩⟩]):Int))]}):=ag λ(l,m,_) _ o=>by
 have p:=bw o;refine al wA [] func336 (?_:(λf g e d=>(λh=>l.length*64<=140737488355328->m.length*8<=140737488355328->tt l<=1048576/\(W (d.getD g e)->W (d.getD 1 e)->W (d.getD 2 e)->W (d.getD 3 e)->W (d.getD 4 e)->W (d.getD 5 e)->W (d.getD 6 e)->W (d.getD 7 e)->W (d.getD 8 e)->W (d.getD 9 e)->W (d.getD 10 e)->W (d.getD 11 e)->W (d.getD 12 e)->W (d.getD 13 e)->W (d.getD 14 e)->W (d.getD 15 e)->W (d.getD 16 e)->W (d.getD 17 e)->W (d.getD 18 e)->W (d.getD 19 e)->W (d.getD 20 e)->W (d.getD 21 e)->W (d.getD 22 e)->W (d.getD 23 e)->W (d.getD 24 e)->W (d.getD 25 e)->W (d.getD 26 e)->W (d.getD 27 e)->W (d.getD 28 e)->W (d.getD 29 e)->W (d.getD 30 e)->W (d.getD 31 e)->W (d.getD 32 e)->W (d.getD 33 e)->W (d.getD 34 e)->W (d.getD 35 e)->W (d.getD 36 e)->W (d.getD 37 e)->W (d.getD 38 e)->W (d.getD 39 e)->W (d.getD 40 e)->W (d.getD 41 e)->W (d.getD 42 e)->W (d.getD 43 e)->W (d.getD 44 e)->W (d.getD 45 e)->W (d.getD 46 e)->W (d.getD 47 e)->W (d.getD 48 e)->W (d.getD 49 e)->W (d.getD 50 e)->W (d.getD 51 e)->W (d.getD 52 e)->W (d.getD 53 e)->W (d.getD 54 e)->W (d.getD 55 e)->W (d.getD 56 e)->W (d.getD 57 e)->W (d.getD 58 e)->W (d.getD 59 e)->W (d.getD 60 e)->W (d.getD 61 e)->W (d.getD 62 e)->W (d.getD 63 e)->W (d.getD 64 e)->(∀(i:Nat),(λj=>0<=j/\j+(m.length:Int)<=4611686018427387904) ((DU Sh.int d g f).getD i 0))/\h.length=f/\((nD (gV h) 64).length*8<=140737488355328->(↑(nD (gV h) 64).length:Int)=(↑(eX (l++[ie.mk 0 0 m false (n9.mk [])])):Int)))) (DU Sh.int (fJ (DU Sh.int d g f) m) g f)) (65:Nat) (0:Nat) (c4 Sh.int) (df l));repeat' first|(with_reducible first|apply aH|refine aI ?_|intro)|exact aZ|exact(ud 65 0)|exact(Gx (s:=.int) ap ap _).1|exact(Gx (s:=.int) ap ap _).2|exact(by rw[lR (s:=.int) (xs:=fJ _ _) (by rw[ui,ud]),lR (lY l)];have:=HS (l++[ie.mk 0 0 m false ⟨[]⟩]);rw[mI]at this;exact this)
def iL:=(ae Zr (ae CA wA))
def s_{c:Type}(l:List c)(i:Nat)(x:c):List c:=l.take i++x::l.drop i
def wZ{c:Type}(l:List c)(i:Int):List c:=l.take i.toNat++l.drop (i+1).toNat
def cV(s:c5)(c:b6):Int:=if 0<=aj n7.set c.set s.eb/\¬(s.eb.getD (aj n7.set c.set s.eb).toNat (c4 (.nm .opn))).a6=c.a6 then -1 else aj n7.set c.set s.eb
def fN(s:c5)(c:b6):c5×l3:=if 0<=aj n7.set c.set s.eb then(s,⟨16,(s.eb.getD (aj n7.set c.set s.eb).toNat (c4 (.nm .opn))).a6⟩)
 else({s with eb:=s_ s.eb (s.eb.takeWhile λy=>decide (y.set<c.set)).length ⟨c.set,c.a6⟩},⟨0,0⟩)
def fx(s:c5)(c:b6):c5×l3:=if cV s c<0 then(s,⟨15,0⟩)else({s with eb:=wZ s.eb (cV s c)},⟨0,0⟩)
def fb(s:c5)(c:b6):c5×l3:=
 if cV s c<0 then(s,⟨15,0⟩)
 else if 16<=(s.c3.length:Int)\/1048576<=s.next then(s,⟨20,0⟩)
 else if¬s.eR=0/\s.eR<(eX (s.c3++[⟨0,0,c.c6,false,⟨[]⟩⟩]):Int)then(s,⟨19,0⟩)
 else({s with next:=s.next+1,eb:=wZ s.eb (cV s c),c3:=s.c3++[⟨s.next,c.set,c.c6,false,⟨[]⟩⟩]},⟨0,s.next⟩)
def eF(s:c5)(c:Nat):c5×l3:=
 if(s.c3.getD c (c4 (.nm .snap))).held=true then(s,⟨17,0⟩)
 else if iN s c=true then(s,⟨18,0⟩)
 else({s with c3:=aU (s.c3.getD c (c4 (.nm .snap))).id s.c3},⟨0,(iy s.c3 (s.c3.getD c (c4 (.nm .snap))).id).length⟩)
def gy(s:c5)(c:Nat):c5×l3:=(s,⟨0,(s.c3.getD c (c4 (.nm .snap))).c6.length⟩)
def gU(b:Bool)(s:c5)(c:Nat):c5×l3:=
 if(s.c3.getD c (c4 (.nm .snap))).held=b then(s,⟨0,0⟩)
 else({s with c3:=s.c3.set c {s.c3.getD c (c4 (.nm .snap))with held:=b}},⟨0,1⟩)
def rC(c:b6)(s:c5)(d:Nat):c5×l3:=({s with c3:=s.c3.set d {s.c3.getD d (c4 (.nm .snap))with tag:=c.text}},⟨0,0⟩)
def sO(c:b6)(s:c5):c5×l3:=({s with dc:=c.n},⟨0,0⟩)
def oT(c:b6)(s:c5):c5×l3:=({s with eR:=c.n},⟨0,eX s.c3⟩)
variable{α:Type}
def dH{d:α->Int}{c:Int}{l:List α}(h:0<=aj d c l):aj d c l<(l.length:Int):=by
 unfold aj at*;split
 .rename_i i hi;have:=(S5.1 hi).1;omega
 omega
theorem Un{s:c5}{c:b6}(h:0<=cV s c):cV s c+1<=(s.eb.length:Int):=by
 unfold cV at*;split
 .grind
 rename_i d;rw[X d]at h;have:=dH h;omega
def KI(i:Int)(m:List n7)(l:List n7)(d:0<=i/\i<=(l.length:Int))(e:l.length<1048576)(f:m.length=1):r8 prog (bj p6) 334 [.c (.own 0),.c (.int i),.c (.fz (.nm .opn) m)] [.row 122 (.nm .opn) l] ⟨[0<=i/\i<=(l.length:Int),l.length<1048576,m.length=1],[.c (.own 0)],some ([.row 122 (.nm .opn) (l.take i.toNat++m++l.drop i.toNat)]),false⟩:=yv i l m d e f
def Lf:CK 334 (aD (ak (kC (iY 0)) (ak dj (ak uL bS))) (bl (jL 122 (.nm .opn)) av) λ(_,i,m,_) (l,_)=>⟨[0<=i/\i<=(l.length:Int),l.length<1048576,m.length=1],[.c (.own 0)],some ([.row 122 (.nm .opn) (l.take i.toNat++m++l.drop i.toNat)]),false⟩):=ag λ(_,i,m,_) (l,_) d=>KI i m l (bw d) (bw (de d)) (bw (de (de d)))
def Ew(i:Int)(l:List eS)(m:List eS)(d:0<=i/\i<=(l.length:Int))(e:l.length<1048576)(f:m.length=1):r8 prog (bj p6) 226 [.c (.own 0),.c (.int i),.c (.own 1)] [.row 119 (.nm .c8) l,.row 119 (.nm .c8) m] ⟨[0<=i/\i<=(l.length:Int),l.length<1048576,m.length=1],[.c (.own 0)],some ([.row 119 (.nm .c8) (l.take i.toNat++m++l.drop i.toNat),.row 119 (.nm .c8) m]),false⟩:=zt i l m d e f
def NS:=jL 119 (.nm .c8)
def FF:CK 226 (aD (ak (kC (iY 0)) (ak dj (ak (kC (iY 1)) bS))) (bl NS (bl NS av)) λ(_,i,_,_) (l,m,_)=>⟨[0<=i/\i<=(l.length:Int),l.length<1048576,m.length=1],[.c (.own 0)],some ([.row 119 (.nm .c8) (l.take i.toNat++m++l.drop i.toNat),.row 119 (.nm .c8) m]),false⟩):=ag λ(_,i,_,_) (l,m,_) d=>Ew i l m (bw d) (bw (de d)) (bw (de (de d)))
def Kh(i:Int)(j:Int)(l:List n7)(d:0<=i/\i<(l.length:Int)/\j=i+1):r8 prog (bj p6) 337 [.c (.own 0),.c (.int i),.c (.int j)] [.row 122 (.nm .opn) l] ⟨[0<=i/\i<(l.length:Int)/\j=i+1],[.c (.own 0)],some ([.row 122 (.nm .opn) (l.take i.toNat++l.drop j.toNat)]),false⟩:=AE i j l d
def Mg:CK 337 (aD (ak (kC (iY 0)) ij) (bl (jL 122 (.nm .opn)) av) λ(_,i,j,_) (l,_)=>⟨[0<=i/\i<(l.length:Int)/\j=i+1],[.c (.own 0)],some ([.row 122 (.nm .opn) (l.take i.toNat++l.drop j.toNat)]),false⟩):=ag λ(_,i,j,_) (l,_) d=>Kh i j l (bw d)
def vT:=Mi 0 av
def xF:=ak iD Ct
theorem JV:CK 335 (aD xF vT λ(_,c,_) (z,_)=>{rs:=[.c (.int (cV z c))]}):=ag λ(_,c,_) (z,_) _=>by
 obtain⟨v,h,i,j,m,e,o⟩:=z;refine al iL [] func335 (?_:(λg d=>(λf=>bf c (W d->(0<=d->(0<=d/\d<(e.length:Int))/\(W f.set->W f.a6->(¬f.a6=c.a6-> -1=g)/\(f.a6=c.a6->d=g)))/\(d<0->d=g))) (e.getD d.toNat (c4 (Sh.nm NT.opn)))) (cV (c5.mk v h i j m e o) c) (aj n7.set c.set e));repeat' first|(with_reducible first|apply aH|refine aI ?_|intro)|exact aZ|exact dH Y|(unfold cV;grind)
def Hf:=bl qg (Mi 1 av)
def af3:CK 295 (aD wH Hf λ_ (c,z,_)=>{rs:=[.agg (cellsOf (.nm .l8) ((sO c z).2))],out:=some ([.box 37 (cellsOf (.nm .command) c)]++wN 1 ((sO c z).1))}):=ag λ_ (c,z,_) _=>by
 obtain⟨v,e,j,f,g,h,i⟩:=z;refine bh iL [] func295 (?_:(λd=>0=d.2.code/\0=d.2.n/\bc c c (cg (c5.mk v e c.n f g h i) d.1)) (sO c (c5.mk v e j f g h i)));repeat' first|(with_reducible first|apply aH|refine aI ?_|intro)|exact aZ|exact rfl
def acd:CK 296 (aD wH Hf λ_ (c,z,_)=>⟨[tt z.c3<=1048576],[.agg (cellsOf (.nm .l8) ((oT c z).2))],some ([.box 37 (cellsOf (.nm .command) c)]++wN 1 ((oT c z).1)),false⟩):=ag λ_ (c,z,_) j=>by
 obtain⟨v,f,g,m,h,i,d⟩:=z;have o:tt d<=1048576:=bw j;refine bh iL [] func296 (?_:(λe=>tt d<=1048576/\(W (↑(eX d):Int)->0=e.2.code/\(↑(eX d):Int)=e.2.n/\bc c c (cg (c5.mk v f g c.n h i d) e.1))) (oT c (c5.mk v f g m h i d)));repeat' first|(with_reducible first|apply aH|refine aI ?_|intro)|exact aZ|exact rfl
def iR:=ak iD fj
theorem Yl:CK 299 (aD iR vT λ(_,i,_) (z,_)=>⟨[0<=i/\i<(z.c3.length:Int),tt z.c3<=1048576],[.agg (cellsOf (.nm .l8) ((eF z i.toNat).2))],some (wN 0 ((eF z i.toNat).1)),false⟩):=ag λ(_,i,_) (z,_) h=>by
 obtain⟨v,j,m,o,p,q,c⟩:=z;have s:0<=i/\i<(c.length:Int):=bw h;have t:tt c<=1048576:=bw (de h);refine bh iL [] func299 (?_:(λf g e=>(λd=>(λr=>W i->f<=i/\i<(c.length:Int)/\bY e ((e.held=true->W 17->W f->17=d.2.code/\r)/\(e.held=false->(iN g i=true->W 18->W f->18=d.2.code/\r)/\(iN g i=false->tt c<=1048576/\((iy c e.id).length*8<=140737488355328->f=d.2.code/\(↑(iy c e.id).length:Int)=d.2.n/\cg (c5.mk v j m o p q (aU e.id c)) d.1))))) (f=d.2.n/\cg g d.1)) (eF g i.toNat)) (0:Int) (c5.mk v j m o p q c) (c.getD i.toNat (c4 (Sh.nm NT.snap))));have hi:((i.toNat:Nat):Int)=i:=by omega
 repeat' first|(with_reducible first|apply aH|refine aI ?_|intro)|exact aZ|((simp only[eF,hi];simp_all)<;>(intros;omega))|(simp only[eF,hi];grind)
def aeQ:CK 300 (aD (ak dj dA) vT λ(i,_,_) (z,_)=>⟨[0<=i/\i<(z.c3.length:Int)],[.agg (cellsOf (.nm .l8) ((gy z i.toNat).2))],some (wN 0 ((gy z i.toNat).1)),false⟩):=ag λ(i,_,_) (z,_) e=>by
 obtain⟨v,f,g,h,j,m,c⟩:=z;have o:0<=i/\i<(c.length:Int):=bw e;refine bh iL [] func300 (?_:(λd=>W i->0<=i/\i<(c.length:Int)/\bY (c.getD i.toNat (c4 (Sh.nm NT.snap))) (0=(gy d i.toNat).2.code/\(↑(c.getD i.toNat (c4 (Sh.nm NT.snap))).c6.length:Int)=(gy d i.toNat).2.n/\cg d (gy d i.toNat).1)) (c5.mk v f g h j m c));repeat' first|(with_reducible first|apply aH|refine aI ?_|intro)|exact aZ|rfl
def WR:CK 301 (aD (ak dj wH) Hf λ(i,_,_,_) (c,z,_)=>⟨[0<=i/\i<(z.c3.length:Int)],[.agg (cellsOf (.nm .l8) ((rC c z i.toNat).2))],some ([.box 37 (cellsOf (.nm .command) c)]++wN 1 ((rC c z i.toNat).1)),false⟩):=ag λ(i,_,_,_) (c,z,_) p=>by
 obtain⟨v,g,h,j,m,o,d⟩:=z;have q:0<=i/\i<(d.length:Int):=bw p;refine bh iL [] func301 (?_:(λf e=>W i->0<=i/\i<(d.length:Int)/\bY e (0=f.2.code/\0=f.2.n/\bc c c (cg (c5.mk v g h j m o (d.set i.toNat (ie.mk e.id e.set e.c6 e.held c.text))) f.1))) (rC c (c5.mk v g h j m o d) i.toNat) (d.getD i.toNat (c4 (Sh.nm NT.snap))));repeat' first|(with_reducible first|apply aH|refine aI ?_|intro)|exact aZ|exact rfl
def yd:=ak iD (ak (kC (tk 4 0)) bS)
theorem Qg:CK 288 (aD (ak dj yd) (Mi 0 (bl (iX 4 (bg cB jf)) av)) λ(i,_,_,_) (z,(b,_),_)=>⟨[0<=i/\i<(z.c3.length:Int)],[.agg (cellsOf (.nm .l8) ((gU b z i.toNat).2))],some (wN 0 ((gU b z i.toNat).1)++[.box 4 ([.bool (.atom b)])]),false⟩):=ag λ(i,_,_,_) (z,(b,_),_) o=>by
 obtain⟨v,f,g,h,j,m,d⟩:=z;have p:0<=i/\i<(d.length:Int):=bw o;refine bh iL [] func288 (?_:(λc e=>W i->0<=i/\i<(d.length:Int)/\bY c (((c.held==b)=true->0=e.2.code/\0=e.2.n/\aw (c5.mk v f g h j m d) e.1 (b=b))/\((c.held==b)=false->0=e.2.code/\1=e.2.n/\aw (c5.mk v f g h j m (d.set i.toNat (ie.mk c.id c.set c.c6 b c.tag))) e.1 (b=b)))) (d.getD i.toNat (c4 (Sh.nm NT.snap))) (gU b (c5.mk v f g h j m d) i.toNat));repeat' first|(with_reducible first|apply aH|refine aI ?_|intro)|exact aZ|((simp only[gU];simp_all)<;>(intros;omega))|(simp only[gU];grind)
def mB:=(ae Qg (ae WR (ae aeQ (ae Yl (ae acd (ae af3 (ae JV (ae Mg (ae FF (ae Lf iL))))))))))
theorem PG{p:α->Bool}{l:List α}(h:(l.take k).all p=true)(d:k<=l.length)(c:(l.length:Int)<=k\/(k:Int)<l.length/\∃x,l[k]? =some x/\p x=false):k=(l.takeWhile p).length:=by
 induction l generalizing k with
 |nil=>simp at d;simp[d]
 |cons a l e=>
  cases k with
  |zero=>
   rcases c with c|⟨_,x,f,g⟩
   .grind
   simp_all
  |succ k=>
   simp only[M4,K7,r3]at h;rw[List.takeWhile_cons,h.1,O rfl,x7];congr 1;refine e h.2 (by simpa using d) ?_;rcases c with c|⟨i,x,f,g⟩
   .grind
   grind
variable{op:List n7}
theorem akw{v d e f:Int}{g:List eS}{i:List ie}{c:b6}{s:Nat}(h:aj n7.set c.set op<0)(m:s<=op.length)(o:(op.take s).all (λy=>decide (y.set<c.set))=true)(p:(op.length:Int)<=s\/c.set<=(op.getD s (c4 (.nm .opn))).set):op.take s++[n7.mk c.set c.a6]++op.drop s=(fN (c5.mk v d e f g op i) c).1.eb:=by
 have j:¬0<=aj n7.set c.set op:=by omega
 simp[fN,X j];have:s=(op.takeWhile λy=>decide (y.set<c.set)).length:=by grind[PG]
 rw[<-this];simp[s_]
def aiz{c:b6}{s:Nat}(e:(op.take s).all (λy=>decide (y.set<c.set))=true)(h:(s:Int)<op.length)(f:(op.getD s (c4 (.nm .opn))).set<c.set):(op.take (s+1)).all (λy=>decide (y.set<c.set))=true:=by
 rw[ah (gd (d:=c4 (.nm .opn)) h),K1,e];simp only[K7,F5 f];rfl
section
variable{v nx kp qt:Int}{se:List eS}{op:List n7}{sn:List ie}{c:b6}
def bgN(h:aj n7.set c.set op<0):fN (c5.mk v nx kp qt se op sn) c=(c5.mk v nx kp qt se (s_ op (op.takeWhile λy=>decide (y.set<c.set)).length ⟨c.set,c.a6⟩) sn,⟨0,0⟩):=by
 have d:¬0<=aj n7.set c.set op:=by omega
 simp[fN,X d]
def bgY(h:0<=aj n7.set c.set op):fN (c5.mk v nx kp qt se op sn) c=(c5.mk v nx kp qt se op sn,⟨16,(op.getD (aj n7.set c.set op).toNat (c4 (.nm .opn))).a6⟩):=by
 simp[fN,O h]
def abY(h:cV (c5.mk v nx kp qt se op sn) c<0):fx (c5.mk v nx kp qt se op sn) c=(c5.mk v nx kp qt se op sn,⟨15,0⟩):=by
 simp[fx,O h]
def abN(h:0<=cV (c5.mk v nx kp qt se op sn) c):fx (c5.mk v nx kp qt se op sn) c=(c5.mk v nx kp qt se (op.take (cV (c5.mk v nx kp qt se op sn) c).toNat++op.drop (cV (c5.mk v nx kp qt se op sn) c+1).toNat) sn,⟨0,0⟩):=by
 have d:¬cV (c5.mk v nx kp qt se op sn) c<0:=by omega
 simp[fx,X d,wZ]
end
def WL(c:b6)(v:Int)(d:Int)(e:Int)(f:Int)(g:List eS)(op:List n7)(h:List ie):List (Nat×LI):=[(5,{σ:=Nat,F:=λk=>([(0,one (.ptr 0 0)),(3,one (.ptr 4 0)),(4,one (.ptr 5 0)),(6,one (.int k))],(wN 0 (c5.mk v d e f g op h)++[.box 37 (cellsOf (.nm .command) c),.box 72 ([.int (0),.int (0)])])),J:=λk=>k<=op.length/\(op.take k).all (λy=>decide (y.set<c.set))=true,μ:=λk=>op.length-k})]
theorem NK:CK 290 (aD xF vT λ(_,c,_) (z,_)=>⟨[z.eb.length<1048576],[.agg (cellsOf (.nm .l8) ((fN z c).2))],some (wN 0 ((fN z c).1)),false⟩):=ag λ(_,c,_) (z,_) B=>by
 obtain⟨v,f,g,h,i,op,j⟩:=z;have D:op.length<1048576:=bw B;refine bh mB (WL c v f g h i op j) func290 (?_:(λ(u:List (l7 (Sh.nm NT.opn)))=>(λ(o:l7 (Sh.nm NT.opn))=>(λ(p:Int)(C:Prop)(d:Int)(e:Int)=>(λ(w:Prop)(m:c5×l3)=>bf c (W e->(d<=e->d<=e/\e<p/\(W (op.getD e.toNat o).set->W (op.getD e.toNat o).a6->16=m.2.code/\(op.getD e.toNat o).a6=m.2.n/\cg (c5.mk v f g h i op j) m.1))/\(e<d->∃(r:Nat),(d=(r:Int)/\w)/\(r<=op.length/\((take r op).all λ(y:n7)=>decide (y.set<c.set))=true)/\∀(s:Nat),(λ(t:Int)(A:Prop)=>s<=op.length/\((take s op).all λ(y:n7)=>decide (y.set<c.set))=true->((s:Int)<p->(d<=(s:Int)/\(s:Int)<p)/\(W t->W (op.getD s o).a6->(t<c.set->W ((s:Int)+1)/\∃(q:Nat),((s:Int)+1=(q:Int)/\w)/\(q<=op.length/\((take q op).all λ(y:n7)=>decide (y.set<c.set))=true)/\op.length-q<op.length-s)/\(c.set<=t->A)))/\(p<=(s:Int)->A)) (op.getD s o).set (((d<=(s:Int)/\(s:Int)<=p)/\C)/\d=m.2.code/\d=m.2.n/\cg (c5.mk v f g h i (take s op++u++drop s op) j) m.1)))) (v=v/\f=f/\g=g/\h=h/\i=i/\op=op/\j=j/\bc c c (d=d/\d=d)) (fN (c5.mk v f g h i op j) c)) (op.length:Int) (op.length<1048576/\u.length=1) 0 (aj n7.set c.set op)) (c4 (Sh.nm NT.opn))) [n7.mk c.set c.a6]);repeat' first|(with_reducible first|apply aH|refine aI ?_|intro)|exact aZ|exact rfl|exact dH Y|exact(aiz Y Y Y)|exact(akw Y N Y N)|(rw[bgN];omega)|(rw[bgY];omega)|refine⟨‹Nat›+1,?_⟩|refine⟨0,?_⟩
def PF:CK 294 (aD xF vT λ(_,c,_) (z,_)=>⟨[z.eb.length<1048576],[.agg (cellsOf (.nm .l8) ((fx z c).2))],some (wN 0 ((fx z c).1)),false⟩):=ag λ(_,c,_) (z,_) r=>by
 obtain⟨v,g,i,j,m,op,o⟩:=z;have s:op.length<1048576:=bw r;refine bh mB [] func294 (?_:(λd f=>(λp e=>(λq=>bf c (W e->(e<d->W 15->W d->15=p.code/\d=p.n/\cg f (fx f c).1)/\(d<=e->W q/\(d<=e/\e<(op.length:Int)/\q=q)/\d=p.code/\d=p.n/\cg (c5.mk v g i j m (take e.toNat op++drop q.toNat op) o) (fx f c).1))) (e+1)) (fx f c).2 (cV f c)) (0:Int) (c5.mk v g i j m op o));have t:0<=cV (c5.mk v g i j m op o) c->cV (c5.mk v g i j m op o) c+1<=(op.length:Int):=λh=>Un h;repeat' first|(with_reducible first|apply aH|refine aI ?_|intro)|exact aZ|(rw[abN];omega)|(rw[abY];omega)
theorem LS:CK 292 (aD xF vT λ(_,c,_) (z,_)=>⟨[tt z.c3<=1048576,z.c3.length<1048576,z.eb.length<1048576,0<=z.next],[.agg (cellsOf (.nm .l8) ((fb z c).2))],some (wN 0 ((fb z c).1)),false⟩):=ag λ(_,c,_) (z,_) p=>by
 obtain⟨v,f,q,i,r,op,e⟩:=z;have A:tt e<=1048576:=bw p;have B:e.length<1048576:=bw (de p);have C:op.length<1048576:=bw (de (de p));have D:0<=f:=bw (de (de (de p)));refine bh mB [] func292 (?_:(λu j w d=>(λs o=>(λm g=>(λt y=>bf c (W g->(g<d->W 15->W d->15=m.code/\t)/\(d<=g->(16<=(e.length:Int)\/1048576<=f->W 20->W d->20=m.code/\t)/\((e.length:Int)<16/\f<1048576->(¬i=d->tt e<=1048576/\(W s->(i<s->W 19->W d->19=m.code/\t)/\(s<=i->w->y)))/\(i=d->w->y))))) (d=m.n/\cg o (fb o c).1) ((e.length+[u].length)*64<=140737488355328/\W (f+j)/\W (g+j)/\(d<=g/\g<(op.length:Int)/\g+j=g+j)/\d=m.code/\f=m.n/\cg (c5.mk v (f+j) q i r (take g.toNat op++drop (g+j).toNat op) (e++[u])) (fb o c).1)) (fb o c).2 (cV o c)) (↑(eX (e++[ie.mk d d c.c6 false (n9.mk [])])):Int) (c5.mk v f q i r op e)) (ie.mk f c.set c.c6 false (n9.mk [])) (1:Int) (c.c6.length*8<=140737488355328) (0:Int));have F:0<=cV (c5.mk v f q i r op e) c->cV (c5.mk v f q i r op e) c+1<=(op.length:Int):=λh=>Un h;repeat' first|(with_reducible first|apply aH|refine aI ?_|intro)|exact aZ|(simp only[fb,wZ];grind)|(simp only[x7,B2];omega)
def afn:CK 298 (aD (ak dj dA) vT λ(i,_,_) (z,_)=>⟨[0<=i/\i<(z.c3.length:Int),tt z.c3<=1048576],[.agg (cellsOf (.nm .l8) ((eF z i.toNat).2))],some (wN 0 ((eF z i.toNat).1)),false⟩):=ag λ(i,_,_) (z,_) e=>by
 obtain⟨v,f,g,h,j,op,d⟩:=z;have m:0<=i/\i<(d.length:Int):=bw e;have o:tt d<=1048576:=bw (de e);refine bh mB [] func298 (?_:(λc=>W i->(0<=i/\i<(d.length:Int))/\tt d<=1048576/\(W c.2.code->W c.2.n->c.2.code=c.2.code/\c.2.n=c.2.n/\cg c.1 c.1)) (eF (c5.mk v f g h j op d) i.toNat));repeat' first|(with_reducible first|apply aH|refine aI ?_|intro)|exact aZ|exact rfl
def iQ:=(ae afn (ae LS (ae PF (ae NK mB))))
def bZ(f:c5->Nat->c5×l3)(c:b6)(s:c5):c5×l3:=if aj ie.id c.id s.c3<0 then(s,⟨15,0⟩)else f s (aj ie.id c.id s.c3).toNat
section
variable{v nx kp qt:Int}{se:List eS}{op:List n7}{sn:List ie}{c:b6}{f:c5->Nat->c5×l3}
def sdY(h:aj ie.id c.id sn<0):bZ f c (c5.mk v nx kp qt se op sn)=(c5.mk v nx kp qt se op sn,⟨15,0⟩):=by
 simp[bZ,O h]
def sdN(h:0<=aj ie.id c.id sn):bZ f c (c5.mk v nx kp qt se op sn)=f (c5.mk v nx kp qt se op sn) (aj ie.id c.id sn).toNat:=by
 have d:¬aj ie.id c.id sn<0:=by omega
 simp[bZ,X d]
end
def DO:=Mi 0 (bl qg av)
def abO:CK 289 (aD yd DO λ_ (z,c,_)=>⟨[z.eb.length<1048576],[.agg (cellsOf (.nm .l8) ((fN z c).2))],some (wN 0 ((fN z c).1)++[.box 37 (cellsOf (.nm .command) c)]),false⟩):=ag λ_ (z,c,_) e=>by
 obtain⟨v,f,g,h,i,op,j⟩:=z;have m:op.length<1048576:=bw e;refine bh iQ [] func289 (?_:(λd=>op.length<1048576/\(W d.2.code->W d.2.n->d.2.code=d.2.code/\d.2.n=d.2.n/\aw d.1 d.1 (aQ c c))) (fN (c5.mk v f g h i op j) c));repeat' first|(with_reducible first|apply aH|refine aI ?_|intro)|exact aZ|exact rfl
def adb:CK 291 (aD yd DO λ_ (z,c,_)=>⟨[tt z.c3<=1048576,z.c3.length<1048576,z.eb.length<1048576,0<=z.next],[.agg (cellsOf (.nm .l8) ((fb z c).2))],some (wN 0 ((fb z c).1)++[.box 37 (cellsOf (.nm .command) c)]),false⟩):=ag λ_ (z,c,_) f=>by
 obtain⟨v,g,h,i,j,op,e⟩:=z;have m:tt e<=1048576:=bw f;have o:e.length<1048576:=bw (de f);have p:op.length<1048576:=bw (de (de f));have q:0<=g:=bw (de (de (de f)));refine bh iQ [] func291 (?_:(λd=>tt e<=1048576/\e.length<1048576/\op.length<1048576/\0<=g/\(W d.2.code->W d.2.n->d.2.code=d.2.code/\d.2.n=d.2.n/\aw d.1 d.1 (aQ c c))) (fb (c5.mk v g h i j op e) c));repeat' first|(with_reducible first|apply aH|refine aI ?_|intro)|exact aZ|exact rfl
def ab1:CK 293 (aD yd DO λ_ (z,c,_)=>⟨[z.eb.length<1048576],[.agg (cellsOf (.nm .l8) ((fx z c).2))],some (wN 0 ((fx z c).1)++[.box 37 (cellsOf (.nm .command) c)]),false⟩):=ag λ_ (z,c,_) e=>by
 obtain⟨v,f,g,h,i,op,j⟩:=z;have m:op.length<1048576:=bw e;refine bh iQ [] func293 (?_:(λd=>op.length<1048576/\(W d.2.code->W d.2.n->d.2.code=d.2.code/\d.2.n=d.2.n/\aw d.1 d.1 (aQ c c))) (fx (c5.mk v f g h i op j) c));repeat' first|(with_reducible first|apply aH|refine aI ?_|intro)|exact aZ|exact rfl
def Ab:CK 284 (aD (ak (kC (ub 298 [] [(0,0)])) yd) DO λ_ (z,c,_)=>⟨[],[.c (.fn 285 [] [(0,0),(4,0),(5,0)])],some (wN 0 z++[.box 37 (cellsOf (.nm .command) c),.box 291 ([.fn 298 [] [(0,0)]])]),true⟩):=ag λ_ (z,c,_) _=>by
 obtain⟨v,d,e,f,g,op,h⟩:=z;refine bU iQ [] func284 (?_:v=v/\d=d/\e=e/\f=f/\g=g/\op=op/\h=h/\aQ c c);repeat' first|(with_reducible first|apply aH|refine aI ?_|intro)|exact aZ|exact rfl
def CQ:CK 284 (aD (ak (kC (ub 300 [] [(0,0)])) yd) DO λ_ (z,c,_)=>⟨[],[.c (.fn 285 [] [(0,0),(4,0),(5,0)])],some (wN 0 z++[.box 37 (cellsOf (.nm .command) c),.box 291 ([.fn 300 [] [(0,0)]])]),true⟩):=ag λ_ (z,c,_) _=>by
 obtain⟨v,d,e,f,g,op,h⟩:=z;refine bU iQ [] func284 (?_:v=v/\d=d/\e=e/\f=f/\g=g/\op=op/\h=h/\aQ c c);repeat' first|(with_reducible first|apply aH|refine aI ?_|intro)|exact aZ|exact rfl
def EV:CK 284 (aD (ak (kC (ub 301 [] [(0,0),(1,0)])) (ak (kC (tk 1 0)) dA)) Hf λ_ (c,z,_)=>⟨[],[.c (.fn 285 [] [(1,0),(0,0),(5,0)])],some ([.box 37 (cellsOf (.nm .command) c)]++wN 1 z++[.box 291 ([.fn 301 [] [(0,0),(1,0)]])]),true⟩):=ag λ_ (c,z,_) _=>by
 obtain⟨v,d,e,f,g,op,h⟩:=z;refine bU iQ [] func284 (?_:bc c c (v=v/\d=d/\e=e/\f=f/\g=g/\op=op/\h=h));repeat' first|(with_reducible first|apply aH|refine aI ?_|intro)|exact aZ|exact rfl
def Dq:CK 284 (aD (ak (kC (ub 288 [] [(0,0),(4,0)])) (ak iD (ak (kC (tk 5 0)) bS))) (Mi 0 (bl (iX 4 (bg cB jf)) (bl qg av))) λ_ (z,(b,_),c,_)=>⟨[],[.c (.fn 285 [] [(0,0),(5,0),(6,0)])],some (wN 0 z++[.box 4 ([.bool (.atom b)]),.box 37 (cellsOf (.nm .command) c),.box 291 ([.fn 288 [] [(0,0),(4,0)]])]),true⟩):=ag λ_ (z,(b,_),c,_) _=>by
 obtain⟨v,d,e,f,g,op,h⟩:=z;refine bU iQ [] func284 (?_:v=v/\d=d/\e=e/\f=f/\g=g/\op=op/\h=h/\b=b/\aQ c c);repeat' first|(with_reducible first|apply aH|refine aI ?_|intro)|exact aZ|exact rfl
def kP:=(ae Dq (ae EV (ae CQ (ae Ab (ae ab1 (ae adb (ae abO iQ)))))))
def abl:CK 287 (aD (ak (kC cB) wH) (bl (iX 293 (bg (ub 284 [] [(1,0),(5,0)]) jf)) (Mi 1 (bl qg av))) λ(b,_,_,_) ((_,_),z,c,_)=>⟨[],[.c (.fn 285 [] [(1,0),(5,0),(7,0)])],some ([.box 293 ([.fn 284 [] [(1,0),(5,0)]])]++wN 1 z++[.box 37 (cellsOf (.nm .command) c),.box 4 ([.bool (.atom b)]),.box 291 ([.fn 288 [] [(1,0),(6,0)]])]),true⟩):=ag λ(b,_,_,_) ((_,_),z,c,_) _=>by
 obtain⟨v,d,e,f,g,op,h⟩:=z;refine bU kP [] func287 (?_:v=v/\d=d/\e=e/\f=f/\g=g/\op=op/\h=h/\bc c c (b=b));repeat' first|(with_reducible first|apply aH|refine aI ?_|intro)|exact aZ|exact rfl
def HD:=ak iD (ak (kC (tk 4 0)) (ak (kC (tk 5 0)) bS))
def Ft:CK 285 (aD HD (Mi 0 (bl qg (bl (iX 291 (bg (ub 298 [] [(0,0)]) jf)) av))) λ_ (z,c,(_,_),_)=>⟨[tt z.c3<=1048576],[.agg (cellsOf (.nm .l8) ((bZ eF c z).2))],some (wN 0 ((bZ eF c z).1)++[.box 37 (cellsOf (.nm .command) c),.box 291 ([.fn 298 [] [(0,0)]])]),false⟩):=ag λ_ (z,c,(_,_),_) i=>by
 obtain⟨v,j,m,o,p,op,f⟩:=z;have q:tt f<=1048576:=bw i;refine bh kP [] func285 (?_:(λd g=>(λh e=>W d->(d<0->W 15->W 0->15=e.2.code/\0=e.2.n/\aw g e.1 (aQ c c))/\(0<=d->(0<=d/\d<(f.length:Int))/\tt f<=1048576/\(W h.code->W h.n->h.code=e.2.code/\h.n=e.2.n/\aw (eF g d.toNat).1 e.1 (aQ c c)))) (eF g d.toNat).2 (bZ eF c g)) (aj ie.id c.id f) (c5.mk v j m o p op f));repeat' first|(with_reducible first|apply aH|refine aI ?_|intro)|exact aZ|exact dH Y|(rw[sdY]<;>first|rfl|omega)|(rw[sdN]<;>first|rfl|omega)
def Ke:CK 285 (aD HD (Mi 0 (bl qg (bl (iX 291 (bg (ub 300 [] [(0,0)]) jf)) av))) λ_ (z,c,(_,_),_)=>{rs:=[.agg (cellsOf (.nm .l8) ((bZ gy c z).2))],out:=some (wN 0 ((bZ gy c z).1)++[.box 37 (cellsOf (.nm .command) c),.box 291 ([.fn 300 [] [(0,0)]])])}):=ag λ_ (z,c,(_,_),_) _=>by
 obtain⟨v,i,j,m,o,op,h⟩:=z;refine bh kP [] func285 (?_:(λd f=>(λg e=>W d->(d<0->W 15->W 0->15=e.2.code/\0=e.2.n/\aw f e.1 (aQ c c))/\(0<=d->(0<=d/\d<(h.length:Int))/\(W g.code->W g.n->g.code=e.2.code/\g.n=e.2.n/\aw (gy f d.toNat).1 e.1 (aQ c c)))) (gy f d.toNat).2 (bZ gy c f)) (aj ie.id c.id h) (c5.mk v i j m o op h));repeat' first|(with_reducible first|apply aH|refine aI ?_|intro)|exact aZ|exact dH Y|(rw[sdY]<;>first|rfl|omega)|(rw[sdN]<;>first|rfl|omega)
def RR:CK 285 (aD HD (Mi 0 (bl qg (bl (iX 291 (bg (ub 301 [] [(4,0),(0,0)]) jf)) av))) λ_ (z,c,(_,_),_)=>{rs:=[.agg (cellsOf (.nm .l8) ((bZ (rC c) c z).2))],out:=some (wN 0 ((bZ (rC c) c z).1)++[.box 37 (cellsOf (.nm .command) c),.box 291 ([.fn 301 [] [(4,0),(0,0)]])])}):=ag λ_ (z,c,(_,_),_) _=>by
 obtain⟨v,i,j,m,o,op,h⟩:=z;refine bh kP [] func285 (?_:(λd f=>(λg e=>W d->(d<0->W 15->W 0->15=e.2.code/\0=e.2.n/\aw f e.1 (aQ c c))/\(0<=d->(0<=d/\d<(h.length:Int))/\(W g.code->W g.n->g.code=e.2.code/\g.n=e.2.n/\aw (rC c f d.toNat).1 e.1 (aQ c c)))) (rC c f d.toNat).2 (bZ (rC c) c f)) (aj ie.id c.id h) (c5.mk v i j m o op h));repeat' first|(with_reducible first|apply aH|refine aI ?_|intro)|exact aZ|exact dH Y|(rw[sdY]<;>first|rfl|omega)|(rw[sdN]<;>first|rfl|omega)
def Ks:CK 285 (aD HD (Mi 0 (bl qg (bl (iX 291 (bg (ub 288 [] [(0,0),(6,0)]) jf)) (bl (iX 4 (bg cB jf)) av)))) λ_ (z,c,(_,_),(b,_),_)=>{rs:=[.agg (cellsOf (.nm .l8) ((bZ (gU b) c z).2))],out:=some (wN 0 ((bZ (gU b) c z).1)++[.box 37 (cellsOf (.nm .command) c),.box 291 ([.fn 288 [] [(0,0),(6,0)]]),.box 4 ([.bool (.atom b)])])}):=ag λ_ (z,c,(_,_),(b,_),_) _=>by
 obtain⟨v,i,j,m,o,op,h⟩:=z;refine bh kP [] func285 (?_:(λd f=>(λg e=>W d->(d<0->W 15->W 0->15=e.2.code/\0=e.2.n/\aw f e.1 (bc c c (b=b)))/\(0<=d->(0<=d/\d<(h.length:Int))/\(W g.code->W g.n->g.code=e.2.code/\g.n=e.2.n/\aw (gU b f d.toNat).1 e.1 (bc c c (b=b))))) (gU b f d.toNat).2 (bZ (gU b) c f)) (aj ie.id c.id h) (c5.mk v i j m o op h));repeat' first|(with_reducible first|apply aH|refine aI ?_|intro)|exact aZ|exact dH Y|(rw[sdY]<;>first|rfl|omega)|(rw[sdN]<;>first|rfl|omega)
def Bu:=(ae Ks (ae RR (ae Ke (ae Ft (ae abl kP)))))
def gg(s:c5)(c:b6):Int:=if bP s s.bo=0 then aO c s.bo else 1
def tg(s:c5)(c:b6):c5×l3:=
 if c.kind=11 then bZ (rC c) c s
 else if c.kind=10 then bZ (gU false) c s
 else if c.kind=9 then bZ (gU true) c s
 else if c.kind=7 then bZ gy c s
 else if c.kind=5 then bZ eF c s
 else if c.kind=12 then oT c s
 else if c.kind=6 then sO c s
 else if c.kind=4 then fx s c
 else if c.kind=3 then fb s c
 else if c.kind=2 then fN s c
 else(s,⟨1,0⟩)
def cc(s:c5)(c:b6):c5×l3:=if¬gg s c=0 then(s,⟨gg s c,0⟩)else tg s c
theorem yD{α:Type}{d:α->Int}{c:Int}:∀{l:List α} {a:Int},au d c a l=true->l=[]\/a+(l.length:Int)<=c
 |[],_,_=>.inl rfl
 |x::l,a,h=>by
  simp[au]at h;have e:=wT h.1;rcases yD h.2 with h2|h2
  .grind
  grind
theorem gB{s:c5}{v:Int}(h:bP s v=0):aM v 1 3=true/\gk s v=true/\pI s=true/\nB s=true/\f_ s v=true:=by
 unfold bP at h;grind
theorem afi{s:c5}{v:Int}(h:bP s v=0):s.eb.length<=8:=by
 have c:=(gB h).2.2.2.1;simp[nB]at c;rcases yD c.1 with h2|h2
 .grind
 omega
theorem acv{s:c5}{v:Int}(h:bP s v=0):s.c8.length<=8:=by
 have c:=(gB h).2.2.1;simp[pI]at c;rcases yD c.1 with h2|h2
 .grind
 omega
theorem UF{s:c5}{v:Int}(h:bP s v=0):s.c3.length<=16/\au ie.id (s.next-1) 0 s.c3=true/\∀x∈s.c3,dY v (ny v) x=true:=by
 have c:=(gB h).2.2.2.2;simp[f_]at c;grind
variable{t:Int}
theorem aeK{v:Int}(h:dY v t x=true):bO x.c6=true:=by
 simp[dY]at h;cases c:bO x.c6 with
 |true=>rfl
 |false=>have:=ly (l:=x.c6) c;omega
theorem Ub:∀{l:List ie},(∀x∈l,bO x.c6=true)->tt l<=8*l.length
 |[],_=>tw _
 |x::l,h=>by
  have d:=Ub (l:=l) λy c=>h y (x9 _ c);have f:=(tz (h x A9)).2;have e:tt (x::l)=x.c6.length+tt l:=by simp[tt]
  grind
theorem II{s:c5}{v:Int}(h:bP s v=0):tt s.c3<=128:=by grind[UF,Ub,aeK]
def acb{s:c5}{v:Int}(h:bP s v=0):1<=s.next/\s.next<=1048576:=by
 have c:=(gB h).2.1;simp[gk]at c;exact wT c.1.1.2
theorem CN{s:c5}{c:b6}(h:(if bP s s.bo=0 then aO c s.bo else 1)=0):bP s s.bo=0:=by grind
def FM{s:c5}{c:b6}(h:(if bP s s.bo=0 then aO c s.bo else 1)=0):tt s.c3<=1048576:=by have:=II (CN h);omega
def OA{s:c5}{c:b6}(h:(if bP s s.bo=0 then aO c s.bo else 1)=0):s.eb.length<1048576:=by have:=afi (CN h);omega
def CG{s:c5}{c:b6}(h:(if bP s s.bo=0 then aO c s.bo else 1)=0):s.c8.length<1048576:=by have:=acv (CN h);omega
def MT{s:c5}{c:b6}(h:(if bP s s.bo=0 then aO c s.bo else 1)=0):s.c3.length<1048576:=by have:=(UF (CN h)).1;omega
def NN{s:c5}{c:b6}(h:(if bP s s.bo=0 then aO c s.bo else 1)=0):0<=s.next:=by have:=acb (CN h);omega
def Ak{s:c5}{c:b6}(h:(if bP s s.bo=0 then aO c s.bo else 1)=0):cc s c=tg s c:=by
 have h:gg s c=0:=h;rw[cc,h];rfl
def ahH{s:c5}{c:b6}(h:¬(if bP s s.bo=0 then aO c s.bo else 1)=0):cc s c=(s,⟨(if bP s s.bo=0 then aO c s.bo else 1),0⟩):=by
 have h:¬gg s c=0:=h;rw[cc,O h];rfl
def abX:CK 249 (aD vn av λ(st,c,_) _=>⟨[],[.agg ([.int ((cc st c).1.bo),.int ((cc st c).1.next),.int ((cc st c).1.dc),.int ((cc st c).1.eR),.own 0,.own 1,.own 2]),.agg (cellsOf (.nm .l8) ((cc st c).2))],some ([.row 119 (.nm .c8) ((cc st c).1.c8),.row 122 (.nm .opn) ((cc st c).1.eb),.row 125 (.nm .snap) ((cc st c).1.c3)]),true⟩):=ag λ(st,c,_) _ _=>by
 refine bU Bu [] func249 (?_:(λw F G s H u i j m r y z A B C D=>(λJ v=>(λd I=>(λo p q e f g h=>(λK=>cK st (bf c (W w->W st.next->W st.dc->W st.eR->W J->(¬J=s->W J->W s->w=h/\st.next=e/\st.dc=f/\st.eR=g/\J=d/\K)/\(J=s->(r=11->W B.2.code->W B.2.n->B.1.bo=h/\B.1.next=e/\B.1.dc=f/\B.1.eR=g/\B.2.code=d/\B.2.n=v.n/\B.1.c8=o/\B.1.eb=q/\B.1.c3=p)/\(¬r=11->(r=10->W D.2.code->W D.2.n->D.1.bo=h/\D.1.next=e/\D.1.dc=f/\D.1.eR=g/\D.2.code=d/\D.2.n=v.n/\D.1.c8=o/\D.1.eb=q/\D.1.c3=p)/\(¬r=10->(r=9->W C.2.code->W C.2.n->C.1.bo=h/\C.1.next=e/\C.1.dc=f/\C.1.eR=g/\C.2.code=d/\C.2.n=v.n/\C.1.c8=o/\C.1.eb=q/\C.1.c3=p)/\(¬r=9->(r=7->W A.2.code->W A.2.n->A.1.bo=h/\A.1.next=e/\A.1.dc=f/\A.1.eR=g/\A.2.code=d/\A.2.n=v.n/\A.1.c8=o/\A.1.eb=q/\A.1.c3=p)/\(¬r=7->(r=5->G/\(W z.2.code->W z.2.n->z.1.bo=h/\z.1.next=e/\z.1.dc=f/\z.1.eR=g/\z.2.code=d/\z.2.n=v.n/\z.1.c8=o/\z.1.eb=q/\z.1.c3=p))/\(¬r=5->(r=12->G/\(W i.2.code->W i.2.n->i.1.bo=h/\i.1.next=e/\i.1.dc=f/\i.1.eR=g/\i.2.code=d/\i.2.n=v.n/\i.1.c8=o/\i.1.eb=q/\i.1.c3=p))/\(¬r=12->(r=6->W F.code->W F.n->u.bo=h/\u.next=e/\u.dc=f/\u.eR=g/\F.code=d/\F.n=v.n/\u.c8=o/\u.eb=q/\u.c3=p)/\(¬r=6->(r=4->H/\(W m.2.code->W m.2.n->m.1.bo=h/\m.1.next=e/\m.1.dc=f/\m.1.eR=g/\m.2.code=d/\m.2.n=v.n/\m.1.c8=o/\m.1.eb=q/\m.1.c3=p))/\(¬r=4->(r=3->G/\st.c3.length<1048576/\H/\s<=st.next/\(W y.2.code->W y.2.n->y.1.bo=h/\y.1.next=e/\y.1.dc=f/\y.1.eR=g/\y.2.code=d/\y.2.n=v.n/\y.1.c8=o/\y.1.eb=q/\y.1.c3=p))/\(¬r=3->(r=2->H/\(W j.2.code->W j.2.n->j.1.bo=h/\j.1.next=e/\j.1.dc=f/\j.1.eR=g/\j.2.code=d/\j.2.n=v.n/\j.1.c8=o/\j.1.eb=q/\j.1.c3=p))/\(¬r=2->W 1->W s->w=h/\st.next=e/\st.dc=f/\st.eR=g/\1=d/\K)))))))))))))) (s=v.n/\st.c8=o/\st.eb=q/\st.c3=p)) I.c8 I.c3 I.eb I.next I.dc I.eR I.bo) v.code (cc st c).1) (if bP st w=s then aO c w else 1) (cc st c).2) st.bo (sO c st).2 (tt st.c3<=1048576) (0:Int) (st.eb.length<1048576) (sO c st).1 (oT c st) (fN st c) (fx st c) c.kind (fb st c) (bZ eF c st) (bZ gy c st) (bZ (rC c) c st) (bZ (gU true) c st) (bZ (gU false) c st))
 repeat' first|(with_reducible first|apply aH|refine aI ?_|intro)|exact aZ|exact(FM Y)|exact(OA Y)|exact(CG Y)|exact(MT Y)|exact(NN Y)|(rw[ahH Y];done)|(rw[Ak Y];simp only[tg, *];done)|(rw[Ak Y];simp[tg, *];done)
def Bd:=(ae abX Bu)
def dJ(s:c5)(c:b6):c5×l3:=
 if aj eS.a6 c.a6 s.c8<0 then(s,⟨11,0⟩)
 else if c.seq=(s.c8.getD (aj eS.a6 c.a6 s.c8).toNat (c4 (.nm .c8))).seq then(s,(s.c8.getD (aj eS.a6 c.a6 s.c8).toNat (c4 (.nm .c8))).last)
 else if c.seq<(s.c8.getD (aj eS.a6 c.a6 s.c8).toNat (c4 (.nm .c8))).seq then(s,⟨13,0⟩)
 else if(s.c8.getD (aj eS.a6 c.a6 s.c8).toNat (c4 (.nm .c8))).seq+1<c.seq then(s,⟨14,0⟩)
 else({(cc s c).1 with c8:=(cc s c).1.c8.set (aj eS.a6 c.a6 s.c8).toNat {(cc s c).1.c8.getD (aj eS.a6 c.a6 s.c8).toNat (c4 (.nm .c8))with seq:=c.seq,last:=(cc s c).2}},(cc s c).2)
def jS(s:c5)(c:b6):c5×l3:=
 if¬gg s c=0 then(s,⟨gg s c,0⟩)
 else if c.kind=8 then(if¬c.n=s.bo+1 then(s,⟨1,0⟩)else({s with bo:=c.n},⟨0,c.n⟩))
 else if c.kind=1 then(if 0<=aj eS.a6 c.a6 s.c8 then(s,⟨12,0⟩)else({s with c8:=s_ s.c8 (s.c8.takeWhile λy=>decide (y.a6<c.a6)).length ⟨c.a6,0,⟨0,0⟩⟩},⟨0,0⟩))
 else dJ s c
variable{Q:c5×l3->Prop}
theorem Zu{s:c5}{c:b6}(g:∀e:Int,¬e=0->Q (s,⟨e,0⟩))
  (d:∀f:c5->Nat->c5×l3,gg s c=0->(f=rC c\/(∃b,f=gU b)\/f=gy\/f=eF)->Q (bZ f c s))
  (i:gg s c=0->Q (oT c s))(j:gg s c=0->Q (sO c s))(m:gg s c=0->Q (fx s c))(o:gg s c=0->Q (fb s c))(p:gg s c=0->Q (fN s c)):Q (cc s c):=by
 unfold cc;split
 .exact g _ ap
 rename_i h;have h:gg s c=0:=A0.1 h;unfold tg;split
 .exact d _ h (.inl rfl)
 split
 .grind
 split
 .exact d _ h (.inr (.inl ⟨_,rfl⟩))
 split
 .exact d _ h (.inr (.inr (.inl rfl)))
 split
 .exact d _ h (.inr (.inr (.inr rfl)))
 split
 .exact i h
 split
 .exact j h
 split
 .exact m h
 split
 .exact o h
 split
 .exact p h
 exact g 1 am
theorem KG{f:c5->Nat->c5×l3}{s:c5}{c:b6}(d:∀e:Int,¬e=0->Q (s,⟨e,0⟩))(h:∀n:Nat,(n:Int)=aj ie.id c.id s.c3->Q (f s n)):Q (bZ f c s):=by
 unfold bZ;grind
theorem oa{s:c5}{c:b6}:(cc s c).1.c8=s.c8:=by
 refine Zu (Q:=λr=>r.1.c8=s.c8) (λ_ _=>rfl) (λf _ d=>?_) (λ_=>rfl) (λ_=>rfl) (λ_=>?_) (λ_=>?_) (λ_=>?_)
 .refine KG (Q:=λr=>r.1.c8=s.c8) (λ_ _=>rfl) λn _=>?_;rcases d with rfl|⟨b,rfl⟩|rfl|rfl
  .rfl
  .unfold gU;split<;>rfl
  .rfl
  unfold eF;split;rfl;split<;>rfl
 .unfold fx;split<;>rfl
 .unfold fb;split;rfl;split;rfl;split<;>rfl
 unfold fN;split<;>rfl
theorem AL{l:List eS}{q:Int}{R:l3}(h:k<l.length):(l.set k (eS.mk (l.getD k (c4 (.nm .c8))).a6 q (l.getD k (c4 (.nm .c8))).last)).set k (eS.mk ((l.set k (eS.mk (l.getD k (c4 (.nm .c8))).a6 q (l.getD k (c4 (.nm .c8))).last)).getD k (c4 (.nm .c8))).a6 ((l.set k (eS.mk (l.getD k (c4 (.nm .c8))).a6 q (l.getD k (c4 (.nm .c8))).last)).getD k (c4 (.nm .c8))).seq R)=l.set k {l.getD k (c4 (.nm .c8))with seq:=q,last:=R}:=by simp_all
section
variable{v nx kp qt:Int}{se:List eS}{op:List n7}{sn:List ie}{c:b6}
def as1(h:aj eS.a6 c.a6 se<0):dJ (c5.mk v nx kp qt se op sn) c=(c5.mk v nx kp qt se op sn,⟨11,0⟩):=by
 simp[dJ,O h]
def as2(h:0<=aj eS.a6 c.a6 se)(e:c.seq=(se.getD (aj eS.a6 c.a6 se).toNat (c4 (.nm .c8))).seq):dJ (c5.mk v nx kp qt se op sn) c=(c5.mk v nx kp qt se op sn,(se.getD (aj eS.a6 c.a6 se).toNat (c4 (.nm .c8))).last):=by
 have d:¬aj eS.a6 c.a6 se<0:=by omega
 simp only[dJ,X d,O e]
def as3(h:0<=aj eS.a6 c.a6 se)(e:¬c.seq=(se.getD (aj eS.a6 c.a6 se).toNat (c4 (.nm .c8))).seq)(l:c.seq<(se.getD (aj eS.a6 c.a6 se).toNat (c4 (.nm .c8))).seq):dJ (c5.mk v nx kp qt se op sn) c=(c5.mk v nx kp qt se op sn,⟨13,0⟩):=by
 have d:¬aj eS.a6 c.a6 se<0:=by omega
 simp only[dJ,X d,X e,O l]
def as4(h:0<=aj eS.a6 c.a6 se)(e:¬c.seq=(se.getD (aj eS.a6 c.a6 se).toNat (c4 (.nm .c8))).seq)(l:(se.getD (aj eS.a6 c.a6 se).toNat (c4 (.nm .c8))).seq<=c.seq)(g:(se.getD (aj eS.a6 c.a6 se).toNat (c4 (.nm .c8))).seq+1<c.seq):dJ (c5.mk v nx kp qt se op sn) c=(c5.mk v nx kp qt se op sn,⟨14,0⟩):=by
 have d:¬aj eS.a6 c.a6 se<0:=by omega
 have f:¬c.seq<(se.getD (aj eS.a6 c.a6 se).toNat (c4 (.nm .c8))).seq:=by omega
 simp only[dJ,X d,X e,X f,O g]
def as5(h:0<=aj eS.a6 c.a6 se)(e:¬c.seq=(se.getD (aj eS.a6 c.a6 se).toNat (c4 (.nm .c8))).seq)(l:(se.getD (aj eS.a6 c.a6 se).toNat (c4 (.nm .c8))).seq<=c.seq)(g:c.seq<=(se.getD (aj eS.a6 c.a6 se).toNat (c4 (.nm .c8))).seq+1):dJ (c5.mk v nx kp qt se op sn) c=({(cc (c5.mk v nx kp qt se op sn) c).1 with c8:=(cc (c5.mk v nx kp qt se op sn) c).1.c8.set (aj eS.a6 c.a6 se).toNat {(cc (c5.mk v nx kp qt se op sn) c).1.c8.getD (aj eS.a6 c.a6 se).toNat (c4 (.nm .c8))with seq:=c.seq,last:=(cc (c5.mk v nx kp qt se op sn) c).2}},(cc (c5.mk v nx kp qt se op sn) c).2):=by
 have d:¬aj eS.a6 c.a6 se<0:=by omega
 have f:¬c.seq<(se.getD (aj eS.a6 c.a6 se).toNat (c4 (.nm .c8))).seq:=by omega
 have i:¬(se.getD (aj eS.a6 c.a6 se).toNat (c4 (.nm .c8))).seq+1<c.seq:=by omega
 simp only[dJ,X d,X e,X f,X i]
def MM(h:0<=aj eS.a6 c.a6 se):aj eS.a6 c.a6 se<((cc (c5.mk v nx kp qt se op sn) c).1.c8.length:Int):=by rw[oa];exact dH h
def BF(h:0<=aj eS.a6 c.a6 se):(aj eS.a6 c.a6 se).toNat<(cc (c5.mk v nx kp qt se op sn) c).1.c8.length:=by have:=MM (v:=v) (nx:=nx) (kp:=kp) (qt:=qt) (op:=op) (sn:=sn) h;omega
def akA{x:eS}(h:0<=aj eS.a6 c.a6 se):aj eS.a6 c.a6 se<(((cc (c5.mk v nx kp qt se op sn) c).1.c8.set (aj eS.a6 c.a6 se).toNat x).length:Int):=by rw[B1];exact MM h
def aif(h:gg (c5.mk v nx kp qt se op sn) c=0)(g:0<=aj eS.a6 c.a6 se):W ((se.getD (aj eS.a6 c.a6 se).toNat (c4 (.nm .c8))).seq+1):=by
 have e:=(gB (CN h)).2.2.1;simp[pI]at e;have f:=e.2 _ (C5 (gd (d:=c4 (.nm .c8)) (k:=(aj eS.a6 c.a6 se).toNat) (l:=se) (by have:=dH g;omega)));simp only[bB,r3]at f;have i:=wT f.1.1;constructor<;>omega
end
theorem Sy:CK 227 (aD (ak (kG (bg cI (bg cI (bg cI (bg cI (bg (iY 0) (bg (iY 1) (bg (iY 2) jf)))))))) Ct) (bl NS (bl (jL 122 (.nm .opn)) (bl (jL 125 (.nm .snap)) av))) λ((v,h,i,j,_,_,_,_),c,_) (f,op,m,_)=>⟨[gg (c5.mk v h i j f op m) c=0],[.agg ([.int ((dJ (c5.mk v h i j f op m) c).1.bo),.int ((dJ (c5.mk v h i j f op m) c).1.next),.int ((dJ (c5.mk v h i j f op m) c).1.dc),.int ((dJ (c5.mk v h i j f op m) c).1.eR),.own 0,.own 1,.own 2]),.agg (cellsOf (.nm .l8) ((dJ (c5.mk v h i j f op m) c).2))],some ([.row 119 (.nm .c8) ((dJ (c5.mk v h i j f op m) c).1.c8),.row 122 (.nm .opn) ((dJ (c5.mk v h i j f op m) c).1.eb),.row 125 (.nm .snap) ((dJ (c5.mk v h i j f op m) c).1.c3)]),false⟩):=ag λ((v,h,i,j,_,_,_,_),c,_) (f,op,m,_) J=>by
 have K:=bw J;refine bh Bd [] func227 (?_:(λA q D p=>(λB=>(λz=>(λI H=>(λo e d=>(λr=>(λF g=>(λs u w y G=>(λC=>W v->W h->W i->W j->bf c (W p->(p<q->W 11->W q->y/\u/\s/\w/\11=e.code/\C)/\(q<=p->q<=p/\p<(f.length:Int)/\dL z ((A=z.seq->y/\u/\s/\w/\z.last.code=e.code/\z.last.n=e.n/\G)/\(¬A=z.seq->(A<z.seq->W 13->W q->y/\u/\s/\w/\13=e.code/\C)/\(z.seq<=A->W I/\(I<A->W 14->W q->y/\u/\s/\w/\14=e.code/\C)/\(A<=I->W d.bo->W d.next->W d.dc->W d.eR->W o.code->W o.n->(q<=p/\p<(d.c8.length:Int))/\dL r (q<=p/\p<(F.length:Int))/\dL r (dL (F.getD B D) (d.bo=g.bo/\d.next=g.next/\d.dc=g.dc/\d.eR=g.eR/\o.code=e.code/\o.n=e.n/\F.set B (eS.mk (F.getD B D).a6 (F.getD B D).seq o)=g.c8/\d.eb=g.eb/\d.c3=g.c3))))))))) (q=e.n/\G)) (i=g.dc) (h=g.next) (j=g.eR) (v=g.bo) (f=g.c8/\op=g.eb/\m=g.c3)) (d.c8.set B (eS.mk r.a6 A r.last)) (dJ H c).1) (d.c8.getD B D)) (cc H c).2 (dJ H c).2 (cc H c).1) (z.seq+1) (c5.mk v h i j f op m)) (f.getD B D)) p.toNat) c.seq (0:Int) (c4 (Sh.nm NT.c8)) (aj eS.a6 c.a6 f));repeat' first|(with_reducible first|apply aH|refine aI ?_|intro)|exact aZ|exact dH Y|exact MM Y|exact akA Y|exact aif Y Y|(rw[as1]<;>first|rfl|with_reducible assumption|exact AL (BF Y))|(rw[as2]<;>first|rfl|with_reducible assumption|exact AL (BF Y))|(rw[as3]<;>first|rfl|with_reducible assumption|exact AL (BF Y))|(rw[as4]<;>first|rfl|with_reducible assumption|exact AL (BF Y))|(rw[as5]<;>first|rfl|with_reducible assumption|exact AL (BF Y))
def DC:=(ae Sy Bd)
section
variable{s:c5}{c:b6}
def anP(h:(if bP s s.bo=0 then aO c s.bo else 1)=0):gg s c=0:=h
def ahC(h:(if bP s s.bo=0 then aO c s.bo else 1)=0):W (s.bo+1):=by
 have d:=(gB (CN h)).2.1;simp[gk]at d;have:=wT d.1.1.1;constructor<;>omega
def doE(h:¬(if bP s s.bo=0 then aO c s.bo else 1)=0):jS s c=(s,⟨(if bP s s.bo=0 then aO c s.bo else 1),0⟩):=by
 have h:¬gg s c=0:=h;rw[jS,O h];rfl
def W0(h:(if bP s s.bo=0 then aO c s.bo else 1)=0):jS s c=if c.kind=8 then(if¬c.n=s.bo+1 then(s,⟨1,0⟩)else({s with bo:=c.n},⟨0,c.n⟩))
 else if c.kind=1 then(if 0<=aj eS.a6 c.a6 s.c8 then(s,⟨12,0⟩)else({s with c8:=s_ s.c8 (s.c8.takeWhile λy=>decide (y.a6<c.a6)).length ⟨c.a6,0,⟨0,0⟩⟩},⟨0,0⟩))
 else dJ s c:=by
 have h:¬ ¬gg s c=0:=λk=>k h;rw[jS,X h]
def alf(h:(if bP s s.bo=0 then aO c s.bo else 1)=0)(k:c.kind=8)(n:¬c.n=s.bo+1):jS s c=(s,⟨1,0⟩):=by rw[W0 h,O k,O n]
def ajM(h:(if bP s s.bo=0 then aO c s.bo else 1)=0)(k:c.kind=8)(n:c.n=s.bo+1):jS s c=({s with bo:=c.n},⟨0,c.n⟩):=by rw[W0 h,O k,X (λh=>h n)]
def akB(h:(if bP s s.bo=0 then aO c s.bo else 1)=0)(k:c.kind=1)(n:0<=aj eS.a6 c.a6 s.c8):jS s c=(s,⟨12,0⟩):=by rw[W0 h,X N,O k,O n]
def aip(h:(if bP s s.bo=0 then aO c s.bo else 1)=0)(k:c.kind=1)(n:aj eS.a6 c.a6 s.c8<0):jS s c=({s with c8:=s_ s.c8 (s.c8.takeWhile λy=>decide (y.a6<c.a6)).length ⟨c.a6,0,⟨0,0⟩⟩},⟨0,0⟩):=by rw[W0 h,X N,O k,X N]
def T9(h:(if bP s s.bo=0 then aO c s.bo else 1)=0)(k:¬c.kind=8)(n:¬c.kind=1):jS s c=dJ s c:=by rw[W0 h,X k,X n]
variable{l:List eS}
theorem sx{x:eS}(d:k<=l.length)(e:(l.take k).all (λy=>decide (y.a6<c.a6))=true)(f:(l.length:Int)<=k\/c.a6<=(l.getD k (c4 (.nm .c8))).a6):l.take k++[x]++l.drop k=s_ l (l.takeWhile λy=>decide (y.a6<c.a6)).length x:=by
 have:k=(l.takeWhile λy=>decide (y.a6<c.a6)).length:=by grind[PG]
 rw[<-this];simp[s_]
def aji(e:(l.take k).all (λy=>decide (y.a6<c.a6))=true)(h:(k:Int)<l.length)(f:(l.getD k (c4 (.nm .c8))).a6<c.a6):(l.take (k+1)).all (λy=>decide (y.a6<c.a6))=true:=by
 rw[ah (gd (d:=c4 (.nm .c8)) h),K1,e];simp only[K7,F5 f];rfl
end
def apz(st:c5)(c:b6):List (Nat×LI):=[(15,{σ:=Nat,F:=λk=>([(2,one (.ptr 0 0)),(3,one (.ptr 1 0)),(4,one (.ptr 2 0)),(5,one (.ptr 3 0)),(7,one (.int k))],[.box 56 ([.int st.bo,.int st.next,.int st.dc,.int st.eR,.own 4,.own 5,.own 6]),.box 37 (cellsOf (.nm .command) c),.box 56 ([.int (0),.int (0),.int (0),.int (0),.em true,.em true,.em true]),.box 72 ([.int (0),.int (0)]),.row 119 (.nm .c8) st.c8,.row 122 (.nm .opn) st.eb,.row 125 (.nm .snap) st.c3]),J:=λk=>k<=st.c8.length/\(st.c8.take k).all (λy=>decide (y.a6<c.a6))=true,μ:=λk=>st.c8.length-k})]
theorem akQ:CK 203 (aD vn av λ(st,c,_) _=>⟨[],[.agg ([.int ((jS st c).1.bo),.int ((jS st c).1.next),.int ((jS st c).1.dc),.int ((jS st c).1.eR),.own 0,.own 1,.own 2]),.agg (cellsOf (.nm .l8) ((jS st c).2))],some ([.row 119 (.nm .c8) ((jS st c).1.c8),.row 122 (.nm .opn) ((jS st c).1.eb),.row 125 (.nm .snap) ((jS st c).1.c3)]),true⟩):=ag λ(st,c,_) _ _=>by
 refine bU DC (apz st c) func203 (?_:(λ(r:l3)(A:List ie)(B:List n7)(u:Int)(l:Int)(P:Int)(C:Int)(q:Int)(i:c5)(S:l3)=>(λ(g:Int)(e:List eS)=>(λ(D:Int)(U:Prop)(v:Int)(w:Int)=>(λ(V:Int)(a:Int)(d:Int)=>(λ(h:Prop)(I:Prop)=>(λ(J:List (l7 (Sh.nm NT.c8)))=>(λ(j:Int)(K:Prop)(f:c5)=>(λ(L:Prop)(z:Prop)(m:Prop)(o:Prop)(p:Prop)(F:Prop)=>(λ(G:Prop)=>cK st (bf c (W w->W u->W l->W P->W j->(¬j=d->W j->W d->z/\p/\m/\o/\j=g/\G)/\(j=d->(c.kind=8->W (w+q)/\(¬c.n=w+q->W q->W d->z/\p/\m/\o/\q=g/\G)/\(c.n=w+q->c.n=f.bo/\p/\m/\o/\d=g/\c.n=S.n/\L/\F))/\(¬c.kind=8->(c.kind=q->W D->(d<=D->W 12->W d->z/\p/\m/\o/\12=g/\G)/\(D<d->∃(k:Nat),(d=(k:Int)/\K)/\(k<=e.length/\((take k e).all λ(y:eS)=>decide (y.a6<C))=true)/\∀(s:Nat),(λ(H:l7 (Sh.nm NT.c8))=>(λ(b:Prop)=>s<=e.length/\((take s e).all λ(y:eS)=>decide (y.a6<C))=true->((s:Int)<v->(d<=(s:Int)/\(s:Int)<v)/\dL H ((H.a6<C->W ((s:Int)+q)/\∃(T:Nat),((s:Int)+q=(T:Int)/\K)/\(T<=e.length/\((take T e).all λ(y:eS)=>decide (y.a6<C))=true)/\e.length-T<e.length-s)/\(C<=H.a6->b)))/\(v<=(s:Int)->b)) ((d<=(s:Int)/\(s:Int)<=v)/\e.length<1048576/\J.length=1/\z/\p/\m/\o/\d=g/\I/\take s e++J++drop s e=f.c8/\F)) (e.getD s (c4 (Sh.nm NT.c8)))))/\(¬c.kind=q->gg st c=d/\(W i.bo->W i.next->W i.dc->W i.eR->W r.code->W r.n->i.bo=f.bo/\i.next=f.next/\i.dc=f.dc/\i.eR=f.eR/\r.code=g/\r.n=S.n/\i.c8=f.c8/\i.eb=f.eb/\i.c3=f.c3))))))) (I/\L/\F)) (e=f.c8) (w=f.bo) (l=f.dc) (P=f.eR) (u=f.next) (B=f.eb/\A=f.c3)) (if a=d then V else q) (w=w/\u=u/\l=l/\P=P/\bc c c (h/\h/\h/\h/\h/\h/\U)) (jS st c).1) [eS.mk C d (l3.mk d d)]) (d=d) (d=S.n)) (aO c w) (bP st w) 0) (aj eS.a6 C e) (e=e/\B=B/\A=A) (e.length:Int) st.bo) S.code st.c8) (dJ st c).2 st.c3 st.eb st.next st.dc st.eR c.a6 1 (dJ st c).1 (jS st c).2);repeat' first|(with_reducible first|apply aH|refine aI ?_|intro)|exact aZ|exact rfl|exact anP Y|exact ahC Y|exact CG Y|exact aji Y Y Y|(rw[doE]<;>first|rfl|with_reducible assumption|exact sx N Y N)|(rw[alf]<;>first|rfl|with_reducible assumption|exact sx N Y N)|(rw[ajM]<;>first|rfl|with_reducible assumption|exact sx N Y N)|(rw[akB]<;>first|rfl|with_reducible assumption|exact sx N Y N)|(rw[aip]<;>first|rfl|with_reducible assumption|exact sx N Y N)|(rw[T9]<;>first|rfl|with_reducible assumption|exact sx N Y N)|refine⟨‹Nat›+1,?_⟩|refine⟨0,?_⟩
def Bo:=(ae akQ DC)
def MW:CK 83 (aD bS av λ_ _=>{rs:=[.agg (cellsOf (.nm .state) (⟨1,1,0,0,[],[],[]⟩))]}):=ag λ_ _ _=>by
 refine al Bo [] func83 (?_:(1:Int)=1/\(1:Int)=1/\(0:Int)=0/\(0:Int)=0/\ @Eq (List (l7 (Sh.nm NT.c8))) [] []/\ @Eq (List (l7 (Sh.nm NT.opn))) [] []/\ @Eq (List (l7 (Sh.nm NT.snap))) [] []);repeat' first|(with_reducible first|apply aH|refine aI ?_|intro)|exact aZ|exact rfl
def Ri:=(ae MW Bo)
def iI:=Ri
section
variable{s:c5}{c:b6}
def aod(d:bP s s.bo=0)(h:aO c s.bo=0):(if bP s s.bo=0 then aO c s.bo else 1)=0:=by rw[O d];exact h
def XV(d:bP s s.bo=0)(e:aO c s.bo=0)(f:¬c.kind=8)(g:¬c.kind=1)(h:0<=aj eS.a6 c.a6 s.c8)(i:c.seq=(s.c8.getD (aj eS.a6 c.a6 s.c8).toNat (c4 (.nm .c8))).seq+1):
  jS s c=(c5.mk (cc s c).1.bo (cc s c).1.next (cc s c).1.dc (cc s c).1.eR (s.c8.set (aj eS.a6 c.a6 s.c8).toNat (eS.mk (s.c8.getD (aj eS.a6 c.a6 s.c8).toNat (c4 (.nm .c8))).a6 c.seq (cc s c).2)) (cc s c).1.eb (cc s c).1.c3,(cc s c).2):=by
 rw[T9 (aod d e) f g];obtain⟨v,j,m,o,p,op,q⟩:=s;rw[as5 h (by dsimp only at*;omega) (by dsimp only at*;omega) (by dsimp only at*;omega)];simp[oa]
end
def tV{c:b6}{v:Int}(h:aO c v=0):(1<=v/\v<=3)/\¬br c.kind=0/\br c.kind<=v/\fX c=true:=by
 unfold aO at h;split at h
 .cases h
 rename_i d;rw[H2,not_or]at d;simp at d;split at h
 .cases h
 split at h
 .cases h
 rename_i f e;exact⟨wT d.1,d.2,N,by simpa using e⟩
def UD{s:c5}{c:b6}(h:gg s c=0):bP s s.bo=0/\aO c s.bo=0:=by
 have d:=CN (s:=s) (c:=c) h;refine⟨d,?_⟩;unfold gg at h;rwa[O d]at h
section
variable{α:Type}{key:α->Int}{most:Int}
def On:∀{l:List α} {a b:Int},a<=b->au key most b l=true->au key most a l=true
 |[],_,_,_,_=>rfl
 |x::l,a,b,h,k=>by
  simp[au]at k⊢;have:=wT k.1;exact⟨by unfold aM;rw[r3,u9,u9];omega,k.2⟩
def Gy{l d:List α}(h:d.Sublist l):∀{a:Int},au key most a l=true->au key most a d=true:=by
 induction h with
 |slnil=>intro a _;rfl
 |cons x _ c=>
  intro a k;simp[au]at k;have:=wT k.1;exact c (On N k.2)
 |cons_cons x _ c=>
  intro a k;simp[au]at k⊢;exact⟨k.1,c k.2⟩
theorem ID:∀{l:List α} {a:Int},au key most a l=au id most a (l.map key)
 |[],_=>rfl
 |x::l,a=>by
  show(aM (key x) (a+1) most&&au key most (key x) l)=(aM (key x) (a+1) most&&au id most (key x) (l.map key));rw[ID (l:=l)]
theorem Iv{l:List α}{i:Int}(h:0<=i):(wZ l i).Sublist l:=by
 unfold wZ;rw[show(i+1).toNat=i.toNat+1 by omega];have c:(l.drop (i.toNat+1)).Sublist (l.drop i.toNat):=by grind
 have d:=(List.Sublist.refl (l.take i.toNat)).append c;rwa[E7]at d
theorem uF{want:Int}{l:List α}(h:aj key want l<0):∀x∈l,¬key x=want:=by
 refine pc.1 ?_;unfold aj at*;split
 .grind
 rfl
end
def YX{c:b6}(h:fX c=true):(kI c.kind).1<=c.n/\c.n<=(kI c.kind).2/\Au c=true/\U7 c=true/\lq c.a6 8 (!([(8:Int)].contains c.kind))=true/\lq c.seq 1048576 (!([(1:Int),8].contains c.kind))=true/\lq c.set 8 ([(2:Int),3,4].contains c.kind)=true:=by
 unfold fX at h;simp only[r3,u9]at h;obtain⟨⟨⟨⟨⟨⟨⟨d,e⟩,f⟩,g⟩,i⟩,j⟩,m⟩,o⟩:=h;exact⟨d,e,f,g,i,j,m⟩
def Em{c:b6}(h:fX c=true)(k:c.kind=3):cO c.c6=0:=by
 have d:=(YX h).2.2.1;unfold Au at d;rw[O k]at d;exact(mP d).symm
def rU{s:c5}(M:bP s s.bo=0):au n7.set 8 0 s.eb=true/\∀x∈s.eb,bC x=true:=by
 have h:=(gB M).2.2.2.1;simp[nB]at h;exact h
def Ug{s:c5}{v:Int}(M:bP s v=0):au eS.a6 8 0 s.c8=true/\∀x∈s.c8,bB x=true:=by
 have h:=(gB M).2.2.1;simp[pI]at h;exact h
section
variable{α:Type}{key:α->Int}{most:Int}
theorem nc:∀{l:List α} {a:Int},au key most a l=true->∀x∈l,a<key x
 |[],_,_,_,h=>by cases h
 |y::l,a,k,x,h=>by
  simp[au]at k;have c:=wT k.1;rcases v7.1 h with rfl|h
  .omega
  have:=nc k.2 x h;omega
theorem zw:∀{l:List α} {a:Int},au key most a l=true->∀x∈l,∀y∈l,key x=key y->x=y
 |[],_,_,_,h,_,_,_=>by cases h
 |z::l,a,k,x,d,y,c,e=>by
  simp[au]at k;rcases v7.1 d with rfl|hx2
  .rcases v7.1 c with rfl|hy2
   .rfl
   have:=nc k.2 y hy2;omega
  rcases v7.1 c with rfl|hy2
  .have:=nc k.2 x hx2;omega
  exact zw k.2 x hx2 y hy2 e
def re{c:Int}{l:List α}{d:α}(h:0<=aj key c l):key (l.getD (aj key c l).toNat d)=c/\l.getD (aj key c l).toNat d∈l:=by
 unfold aj at*;cases f:l.findIdx? (λx=>decide (key x=c))with
 |none=>rw[f]at h;dsimp only at h;omega
 |some i=>
  obtain⟨hi,g,_⟩:=S5.1 f;have e:l.getD (i:Int).toNat d=l[i]:=by rw[G3,getD_eq_getElem?_getD,r5 hi,O2]
  dsimp only;rw[e];exact⟨C6 g,I1 hi⟩
end
section
variable{s:c5}{c:b6}
end
section
variable{α:Type}{key:α->Int}{most:Int}
theorem FI:∀{l:List α} {a:Int} {i:Nat} {x:α},au key most a l=true->l[i]? =some x->∀y∈l.take i,key y<key x
 |[],_,_,_,_,h,_,_=>by simp at h
 |z::l,a,0,x,_,_,y,hy=>by simp at hy
 |z::l,a,i+1,x,k,h,y,hy=>by
  simp[au]at k;rw[List.getElem?_cons_succ]at h;rw[M4]at hy;rcases v7.1 hy with rfl|hy
  .exact nc k.2 x (C5 h)
  exact FI k.2 h y hy
end
section
variable{s:c5}{x:ie}{i:Nat}
end
section
variable{s:c5}{x:ie}{i:Nat}
end
section
variable{s:c5}{x:ie}{i:Nat}
end
section
variable{s:c5}{c:b6}{k:Nat}
end
section
variable{α:Type}{key:α->Int}{most:Int}
theorem GA:∀{l c:List α} {a:Int},au key most a l=true->au key most a c=true->(∀x,x∈l↔x∈c)->l=c
 |[],[],_,_,_,_=>rfl
 |[],y::c,_,_,_,h=>by have:=(h y).2 A9;cases this
 |x::l,[],_,_,_,h=>by have:=(h x).1 A9;cases this
 |x::l,y::c,a,k,f,h=>by
  simp[au]at k f;have e:x=y:=by
   rcases v7.1 ((h x).1 A9)with e|hx
   .exact e
   rcases v7.1 ((h y).2 A9)with e|hy
   .exact e.symm
   have:=nc k.2 y hy;have:=nc f.2 x hx;omega
  subst e;rw[GA k.2 f.2 λz=>⟨λd=>?_,λd=>?_⟩]
  .rcases v7.1 ((h z).1 (x9 _ d))with rfl|h2
   .have:=nc k.2 z d;omega
   exact h2
  rcases v7.1 ((h z).2 (x9 _ d))with rfl|h2
  .have:=nc f.2 z d;omega
  exact h2
def QA(key:α->Int)(l:List α)(t:Int):Option α:=l.find? λy=>decide (key y=t)
def zI{l:List α}{x:α}(h:QA key l t=some x):key x=t/\x∈l:=⟨C6 (List.find?_some (p:=λy=>decide (key y=t)) h),List.mem_of_find?_eq_some h⟩
variable{a:Int}
def IM{l:List α}{x:α}(k:au key most a l=true)(h:x∈l):QA key l (key x)=some x:=by
 cases e:QA key l (key x)with
 |none=>
  have:=List.find?_eq_none.1 e x h;simp at this
 |some y=>
  obtain⟨c,d⟩:=zI e;rw[zw k y d x h c]
def Xz{l c:List α}(k:au key most a l=true)(e:au key most a c=true)(h:∀t,QA key l t=QA key c t):l=c:=
 GA k e λx=>⟨λd=>(zI ((h (key x)).symm.trans (IM k d))).2,λd=>(zI ((h (key x)).trans (IM e d))).2⟩
def Vo{l:List α}(k:au key most a l=true)(h:0<=aj key t l)(u:Int):QA key (wZ l (aj key t l)) u=if u=t then none else QA key l u:=by
 have w:=dH h;have f:(aj key t l).toNat<l.length:=by omega
 have c:=re (d:=l[(aj key t l).toNat]) h;rw[getD_eq_getElem?_getD,r5 f,O2]at c;have e:l=l.take (aj key t l).toNat++l[(aj key t l).toNat]::l.drop ((aj key t l).toNat+1):=by
  rw[List.getElem_cons_drop f,E7]
 have p:wZ l (aj key t l)=l.take (aj key t l).toNat++l.drop ((aj key t l).toNat+1):=by
  unfold wZ;rw[show(aj key t l+1).toNat=(aj key t l).toNat+1 by omega]
 by_cases g:u=t
 .subst g;rw[O rfl];refine List.find?_eq_none.2 λy hy=>?_;have s:=Iv (l:=l) h;intro m;have m:=C6 m;have R:=ID (key:=key) (most:=most) (l:=l) (a:=a)▸k;have:=zw k y (s.subset hy) _ c.2 (m.trans c.1.symm);have v:au key most a (l.take (aj key u l).toNat++l[(aj key u l).toNat]::l.drop ((aj key u l).toNat+1))=true:=by rw[<-e];exact k
  rw[p]at hy;rcases A7.1 hy with hy|hy
  .have o:=FI k (r5 f) y hy;rw[this]at o;omega
  obtain⟨j,q,r⟩:=List.mem_iff_getElem.1 hy;rw[List.getElem_drop]at r;have o:=FI (i:=(aj key u l).toNat+1+j) (x:=y) k (by rw[List.length_drop]at q;rw[r5 N,r]) l[(aj key u l).toNat] (by rw[aso];exact⟨(aj key u l).toNat,by rw[List.length_drop]at q;omega,rfl⟩);rw[this]at o;omega
 rw[X g,p];unfold QA;conv=>rhs;rw[e,List.find?_append,List.find?_cons]
 rw[D7 (λh=>g (h.symm.trans c.1)),List.find?_append]
end
section
variable{s:c5}{c:b6}
end
variable{m:Int}
def QU{z:Int}(h:0<=m)(c:m<=1000):0<=lZ z m/\lZ z m<=m:=yH h ⟨N,N⟩
def gJ{α:Type}(c:α->Int)(x:α):List α->List α
 |[]=>[x]
 |y::l=>if c x<c y then x::y::l else y::gJ c x l
def lF{α:Type}(c:α->Int)(l:List α)(x:α):Bool:=l.any λy=>decide (c x<c y)
def gw{α:Type}(c:α->Int)(l:List α)(x:α):List α:=if lF c l x then gJ c x l else l
def th(id:Int)(l:List n7):List n7:=l.filter λx=>!decide (x.set=id)
section
variable{α:Type}{key:α->Int}{x y d:α}
theorem QL:∀{l:List α},lF key l x=true->gJ key x (l++[y])=gJ key x l++[y]
 |[],h=>by cases h
 |z::l,h=>by
  by_cases g:key x<key z
  .simp[gJ,O g]
  have c:lF key l x=true:=by
   unfold lF at h⊢;rw[any_cons,D7 g,Bool.false_or]at h;exact h
  simp[gJ,X g,QL c]
theorem D_:∀{l:List α},lF key l x=false->gJ key x l=l++[x]/\gJ key x (l++[y])=l++gJ key x [y]
 |[],_=>⟨rfl,rfl⟩
 |z::l,h=>by
  unfold lF at h;rw[any_cons,Bool.or_eq_false_iff]at h;have g:=T0 h.1;obtain⟨a,b⟩:=D_ (l:=l) h.2;exact⟨by simp[gJ,X g,a],by simp[gJ,X g]at b⊢;rw[b]⟩
theorem AN:∀{l:List α},(gJ key x l).length=l.length+1
 |[]=>rfl
 |z::l=>by
  by_cases g:key x<key z
  .simp[gJ,O g]
  simp[gJ,X g,AN (l:=l)]
variable{l:List α}{k:Nat}
def aar(c:l[k]? =some y)(g:lF key (l.take k) x=true):true=lF key (l.take (k+1)) x:=by
 unfold lF at*;rw[ah c,any_append,g];rfl
def aaG(c:l[k]? =some y)(g:lF key (l.take k) x=false)(f:key (l.getD k d)<=key x):false=lF key (l.take (k+1)) x:=by
 have e:l.getD k d=y:=by rw[getD_eq_getElem?_getD,c];rfl
 rw[e]at f;unfold lF at*;rw[ah c,any_append,g];simp only[any_cons,List.any_nil,Bool.or_false,Bool.false_or];exact(D7 N).symm
def SA(c:l[k]? =some y)(f:key x<key (l.getD k d)):true=lF key (l.take (k+1)) x:=by
 have e:l.getD k d=y:=by rw[getD_eq_getElem?_getD,c];rfl
 rw[e]at f;unfold lF at*;rw[ah c,any_append];simp[F5 f]
theorem afz(c:l[k]? =some y)(g:lF key (l.take k) x=true):gw key (l.take k) x++[y]=gw key (l.take (k+1)) x:=by
 have e:=aar (key:=key) c g;unfold gw;rw[<-e,g,O rfl,O rfl,ah c,QL g]
theorem aeM(c:l[k]? =some y)(g:lF key (l.take k) x=false)(f:key (l.getD k d)<=key x):gw key (l.take k) x++[y]=gw key (l.take (k+1)) x:=by
 have e:=aaG (key:=key) c g f;unfold gw;rw[<-e,g,X am,X am,ah c]
def Rc(c:l[k]? =some y)(g:lF key (l.take k) x=false)(f:key x<key (l.getD k d)):gw key (l.take k) x++[x]++[y]=gw key (l.take (k+1)) x:=by
 have e:=SA (key:=key) c f;have h:l.getD k d=y:=by rw[getD_eq_getElem?_getD,c];rfl
 rw[h]at f;unfold gw;rw[<-e,g,X am,O rfl,ah c,(D_ g).2];simp[gJ,O f]
def MS(c:l[k]? =some y)(o:lF key (l.take k) x=true\/key (l.getD k d)<=key x):lF key (l.take k) x=lF key (l.take (k+1)) x:=by
 cases g:lF key (l.take k) x with
 |true=>exact aar c g
 |false=>exact aaG c g (o.resolve_left (by rw[g];decide))
theorem Ek(c:l[k]? =some y)(o:lF key (l.take k) x=true\/key (l.getD k d)<=key x):gw key (l.take k) x++[y]=gw key (l.take (k+1)) x:=by grind[afz,aeM]
def aa5(c:l[k]? =some y)(o:lF key (l.take k) x=true):lF key (l.take k) x=lF key (l.take (k+1)) x:=MS (d:=y) c (.inl o)
def Mp(c:l[k]? =some y)(o:lF key (l.take k) x=true):gw key (l.take k) x++[y]=gw key (l.take (k+1)) x:=Ek (d:=y) c (.inl o)
def Pu(h:(l.length:Int)<=k)(g:lF key (l.take k) x=true):gw key (l.take k) x=gJ key x l:=by
 rw[take_of_length_le N]at g⊢;unfold gw;rw[O g]
def Tg(h:(l.length:Int)<=k)(g:lF key (l.take k) x=false):gw key (l.take k) x++[x]=gJ key x l:=by
 rw[take_of_length_le N]at g⊢;unfold gw;rw[X (by rw[g];decide),(D_ (y:=x) g).1]
theorem Dw(h:k<=l.length):(gw key (l.take k) x).length<=l.length+1:=by
 unfold gw;split
 .grind[AN]
 rw[sh];omega
def yo(h:k<=l.length)(g:lF key (l.take k) x=false):(gw key (l.take k) x).length<=l.length:=by
 unfold gw;rw[X (by rw[g];decide),sh];omega
theorem uP{c:Int}:∀{l:List α} {a:Int},au key c a l=true->(∀y∈l,¬key y=key x)->gJ key x l=s_ l (l.takeWhile λy=>decide (key y<key x)).length x
 |[],_,_,_=>rfl
 |y::l,a,k,f=>by
  simp[au]at k;have i:=f y A9;by_cases h:key y<key x
  .have e:s_ (y::l) ((y::l).takeWhile λy=>decide (key y<key x)).length x=y::s_ l (l.takeWhile λy=>decide (key y<key x)).length x:=by
    rw[List.takeWhile_cons,F5 h,O rfl];rfl
   rw[e,gJ,X N,uP k.2 λz g=>f z (x9 _ g)]
  have e:s_ (y::l) ((y::l).takeWhile λy=>decide (key y<key x)).length x=x::y::l:=by
   rw[List.takeWhile_cons,D7 h];rfl
  rw[e,gJ,O N]
end
variable{x:n7}{l:List n7}
def ahu{id:Int}{y:n7}(h:¬x.set=id)(c:l[k]? =some x)(d:l[k]? =some y):th id (l.take k)++[y]=th id (l.take (k+1)):=by
 rw[c]at d;cases d;unfold th;rw[ah c,F4];simp[h]
def air{id:Int}(c:l[k]? =some x)(h:x.set=id):th id (l.take k)=th id (l.take (k+1)):=by
 unfold th;rw[ah c,F4];simp[h]
def abD{id:Int}(h:(l.length:Int)<=k):th id (l.take k)=th id l:=by rw[take_of_length_le N]
def aeG{id:Int}(h:(k:Int)<l.length)(d:l.length*16<=140737488355328):((th id (l.take k)).length+[x].length)*16<=140737488355328:=by
 have c:=N8 (λx:n7=>!decide (x.set=id)) (l.take k);rw[sh]at c;unfold th;simp;omega
def JA(l:List n7)(id:Int):List (Nat×LI):=[(3,{σ:=Nat,F:=λk=>([(0,one (.fz (.nm .opn) l)),(1,one (.int id)),(5,one (.own 0)),(6,one (.int k))],[.row 122 (.nm .opn) (th id (l.take k))]),J:=λk=>k<=l.length,μ:=λk=>l.length-k})]
def F_(l:List ie)(id:Int):List (Nat×LI):=[(3,{σ:=Nat,F:=λk=>([(0,one (.fz (.nm .snap) l)),(1,one (.int id)),(5,one (.own 0)),(6,one (.int k))],[.row 125 (.nm .snap) (aU id (l.take k))]),J:=λk=>k<=l.length,μ:=λk=>l.length-k})]
def adN(l:List n7)(x:n7):List (Nat×LI):=[(4,{σ:=Nat,F:=λk=>([(0,one (.fz (.nm .opn) l)),(3,one (.ptr 0 0)),(5,one (.own 1)),(6,one (.bool (.atom (lF n7.set (l.take k) x)))),(7,one (.int k))],[.box 122 (cellsOf (.nm .opn) x),.row 122 (.nm .opn) (gw n7.set (l.take k) x)]),J:=λk=>k<=l.length,μ:=λk=>l.length-k})]
def acx(l:List eS)(x:eS):List (Nat×LI):=[(4,{σ:=Nat,F:=λk=>([(0,one (.fz (.nm .c8) l)),(3,one (.ptr 0 0)),(5,one (.own 1)),(6,one (.bool (.atom (lF eS.a6 (l.take k) x)))),(7,one (.int k))],[.box 119 (cellsOf (.nm .c8) x),.row 119 (.nm .c8) (gw eS.a6 (l.take k) x)]),J:=λk=>k<=l.length,μ:=λk=>l.length-k})]
theorem adR:CK 235 (aD vn av λ(st,c,_) _=>{rs:=[.c (.int (if bP st st.bo=0 then aO c st.bo else 1))]}):=ag λ(st,c,_) _ _=>by
 refine al iI [] func235 (?_:(λe d=>(λf=>cK st (bf c (W d->(¬d=0->1=f)/\(d=0->W e->e=f)))) (if d=0 then e else 1)) (aO c st.bo) (bP st st.bo));grind
def akx:CK 236 (aD mj av λ(st,e,_) _=>⟨[],[.agg ([.int st.bo,.int st.next,.int st.dc,.int st.eR,.own 0,.own 1,.own 2]),.agg (cellsOf (.nm .l8) (⟨e,0⟩))],some ([.row 119 (.nm .c8) st.c8,.row 122 (.nm .opn) st.eb,.row 125 (.nm .snap) st.c3]),true⟩):=ag λ(st,e,_) _ _=>by
 refine bU iI [] func236 (?_:cK st (W e->W st.bo->W st.next->W st.dc->W st.eR->st.bo=st.bo/\st.next=st.next/\st.dc=st.dc/\st.eR=st.eR/\e=e/\(0:Int)=0/\st.c8=st.c8/\st.eb=st.eb/\st.c3=st.c3));repeat' first|(with_reducible first|apply aH|refine aI ?_|intro)|exact aZ|exact rfl
theorem DY:CK 264 (aD (ak uL fj) av λ(l,id,_) _=>⟨[],[.c (.own 0)],some ([.row 122 (.nm .opn) (th id l)]),true⟩):=ag λ(l,id,_) _ _=>by
 refine bU iI (JA l id) func264 (?_:(λ(f:Int)(e:Nat)=>l.length*16<=140737488355328->W id->∃(i:Nat),(l=l/\id=id/\0=(i:Int)/\th id (take i l)=[])/\i<=e/\∀(s:Nat),(λ(g:List n7)(h:Int)=>s<=e->((s:Int)<f->0<=(s:Int)/\(s:Int)<f/\∀(x:n7),l[s]? =some x->W x.set->W x.a6->(¬x.set=id->0<=(s:Int)/\(s:Int)<f/\∀(x:n7),l[s]? =some x->W x.set->W x.a6->(g.length+[x].length)*16<=140737488355328/\W h/\∃(d:Nat),(l=l/\id=id/\h=(d:Int)/\g++[x]=th id (take d l))/\d<=e/\e-d<e-s)/\(x.set=id->W h/\∃(d:Nat),(l=l/\id=id/\h=(d:Int)/\g=th id (take d l))/\d<=e/\e-d<e-s))/\(f<=(s:Int)->g=th id l)) (th id (take s l)) ((s:Int)+1)) (l.length:Int) l.length);repeat' first|(with_reducible first|apply aH|refine aI ?_|intro)|exact aZ|exact rfl|exact(ahu Y Y Y)|exact(air Y Y)|exact(abD N)|exact(aeG N N)|refine⟨‹Nat›+1,?_⟩|refine⟨0,?_⟩
theorem Ce:CK 320 (aD yc av λ(l,id,_) _=>⟨[],[.c (.own 0)],some ([.row 125 (.nm .snap) (aU id l)]),true⟩):=ag λ(l,id,_) _ _=>by
 refine bU iI (F_ l id) func320 (?_:(λ(f:Int)(e:Nat)=>l.length*64<=140737488355328->W id->∃(i:Nat),(l=l/\id=id/\0=(i:Int)/\aU id (take i l)=[])/\i<=e/\∀(s:Nat),(λ(g:List ie)(h:Int)=>s<=e->((s:Int)<f->0<=(s:Int)/\(s:Int)<f/\∀(x:ie),l[s]? =some x->bY x ((¬x.id=id->0<=(s:Int)/\(s:Int)<f/\∀(x:ie),l[s]? =some x->bY x ((g.length+[x].length)*64<=140737488355328/\W h/\∃(d:Nat),(l=l/\id=id/\h=(d:Int)/\g++[x]=aU id (take d l))/\d<=e/\e-d<e-s))/\(x.id=id->W h/\∃(d:Nat),(l=l/\id=id/\h=(d:Int)/\g=aU id (take d l))/\d<=e/\e-d<e-s)))/\(f<=(s:Int)->g=aU id l)) (aU id (take s l)) ((s:Int)+1)) (l.length:Int) l.length);repeat' first|(with_reducible first|apply aH|refine aI ?_|intro)|exact aZ|exact rfl|exact(QM Y Y Y)|exact(NF Y Y)|exact(EK N)|exact(Ff N N)|refine⟨‹Nat›+1,?_⟩|refine⟨0,?_⟩
theorem Wg:CK 262 (aD (ak uL UC) av λ(l,x,_) _=>⟨[l.length<1048576],[.c (.own 0)],some ([.row 122 (.nm .opn) (gJ n7.set x l)]),true⟩):=ag λ(l,x,_) _ A=>by
 have B:=bw A;refine bU iI (adN l x) func262 (?_:(λq r u w j y h=>l.length*r<=q->W x.set->W x.a6->∃v,(l=l/\false=lF n7.set (take v l) x/\0=(v:Int)/\w/\y/\gw n7.set (take v l) x=[])/\v<=h/\∀(s:Nat),(λd g o i=>(λp z=>s<=h->(d<j->(o=false->(0<=d/\d<j)/\(W g.set->W g.a6->(x.set<g.set->p/\0<=d/\d<j/\∀(e:n7),l[s]? =some e->W e.set->W e.a6->((i++[x]).length+[e].length)*r<=q/\W (d+u)/\∃f,(l=l/\true=lF n7.set (take f l) x/\d+u=(f:Int)/\w/\y/\i++[x]++[e]=gw n7.set (take f l) x)/\f<=h/\h-f<h-s)/\(g.set<=x.set->z)))/\(o=true->z))/\(j<=d->(o=false->p/\i++[x]=gJ n7.set x l)/\(o=true->i=gJ n7.set x l))) ((i.length+[x].length)*r<=q) (0<=d/\d<j/\∀(e:n7),l[s]? =some e->W e.set->W e.a6->(i.length+[e].length)*r<=q/\W (d+u)/\∃f,(l=l/\o=lF n7.set (take f l) x/\d+u=(f:Int)/\w/\y/\i++[e]=gw n7.set (take f l) x)/\f<=h/\h-f<h-s)) (s:Int) (l.getD s (c4 (Sh.nm NT.opn))) (lF n7.set (take s l) x) (gw n7.set (take s l) x)) (140737488355328:Nat) (16:Nat) (1:Int) (x.set=x.set) (l.length:Int) (x.a6=x.a6) l.length);repeat' first|(with_reducible first|apply aH|refine aI ?_|intro)|exact aZ|exact rfl|exact(MS (key:=n7.set) Y (.inr ap))|exact(SA (key:=n7.set) Y Y)|exact(Rc Y Y Y)|exact(Ek Y (.inr ap))|exact(aa5 (key:=n7.set) Y Y)|exact(Mp Y Y)|exact(Pu N Y)|exact(Tg N Y)|(have:=Dw (key:=n7.set) (x:=x) (l:=l) (k:=‹Nat›) N;have:=yo (key:=n7.set) (x:=x) (l:=l) (k:=‹Nat›) N;simp only[s8,x7,B2];omega)|refine⟨‹Nat›+1,?_⟩|refine⟨0,?_⟩
theorem XW:CK 238 (aD (ak Cl Rb) av λ(l,x,_) _=>⟨[l.length<1048576],[.c (.own 0)],some ([.row 119 (.nm .c8) (gJ eS.a6 x l)]),true⟩):=ag λ(l,x,_) _ y=>by
 have z:=bw y;refine bU iI (acx l x) func238 (?_:(λp q r i g=>l.length*q<=p->dL x (∃u,(l=l/\false=lF eS.a6 (take u l) x/\0=(u:Int)/\Ej x x (gw eS.a6 (take u l) x=[]))/\u<=g/\∀(s:Nat),(λv e j h=>(λo w=>s<=g->(e<i->(j=false->(0<=e/\e<i)/\dL v ((x.a6<v.a6->o/\0<=e/\e<i/\∀(d:eS),l[s]? =some d->dL d (((h++[x]).length+[d].length)*q<=p/\W (e+r)/\∃f,(l=l/\true=lF eS.a6 (take f l) x/\e+r=(f:Int)/\Ej x x (h++[x]++[d]=gw eS.a6 (take f l) x))/\f<=g/\g-f<g-s))/\(v.a6<=x.a6->w)))/\(j=true->w))/\(i<=e->(j=false->o/\h++[x]=gJ eS.a6 x l)/\(j=true->h=gJ eS.a6 x l))) ((h.length+[x].length)*q<=p) (0<=e/\e<i/\∀(d:eS),l[s]? =some d->dL d ((h.length+[d].length)*q<=p/\W (e+r)/\∃f,(l=l/\j=lF eS.a6 (take f l) x/\e+r=(f:Int)/\Ej x x (h++[d]=gw eS.a6 (take f l) x))/\f<=g/\g-f<g-s))) (l.getD s (c4 (Sh.nm NT.c8))) (s:Int) (lF eS.a6 (take s l) x) (gw eS.a6 (take s l) x))) (140737488355328:Nat) (32:Nat) (1:Int) (l.length:Int) l.length);repeat' first|(with_reducible first|apply aH|refine aI ?_|intro)|exact aZ|exact rfl|exact(MS (key:=eS.a6) Y (.inr ap))|exact(SA (key:=eS.a6) Y Y)|exact(Rc Y Y Y)|exact(Ek Y (.inr ap))|exact(aa5 (key:=eS.a6) Y Y)|exact(Mp Y Y)|exact(Pu N Y)|exact(Tg N Y)|(have:=Dw (key:=eS.a6) (x:=x) (l:=l) (k:=‹Nat›) N;have:=yo (key:=eS.a6) (x:=x) (l:=l) (k:=‹Nat›) N;simp only[s8,x7,B2];omega)|refine⟨‹Nat›+1,?_⟩|refine⟨0,?_⟩
def Xm:CK 316 (aD (ak l_ iS) av λ(l,m,_) _=>{pre:=[l.length<1048576,tt (l++[⟨0,0,m,false,⟨[]⟩⟩])<=1048576],rs:=[.c (.int (eX (l++[⟨0,0,m,false,⟨[]⟩⟩]):Int))]}):=ag λ(l,m,_) _ e=>by
 have h:=bw e;have i:=bw (de e);refine al iI [] func316 (?_:(λf d=>(λg=>f->m.length*8<=140737488355328->f/\(l.length+[d].length)*64<=140737488355328/\tt (l++[d])<=1048576/\(W g->g=(↑(eX (l++[d])):Int))) (↑(eX (l++[d])):Int)) (l.length*64<=140737488355328) (ie.mk 0 0 m false (n9.mk [])));repeat' first|(with_reducible first|apply aH|refine aI ?_|intro)|exact aZ|(simp only[x7,B2];omega)
def wk:=(ae Xm (ae XW (ae Wg (ae Ce (ae DY (ae akx (ae adR iI)))))))
theorem ack{u:Int}:QA n7.set (th t op) u=if u=t then none else QA n7.set op u:=by
 unfold QA th;rw[List.find?_filter];by_cases h:u=t
 .grind
 grind
def Tz{a:Int}(k:au n7.set m a op=true)(h:0<=aj n7.set t op):th t op=wZ op (aj n7.set t op):=
 Xz (Gy List.filter_sublist k) (Gy (Iv h) k) λu=>by rw[ack,Vo k h]
def dg(s:c5)(c:b6):c5×l3:=
 if 16<=(s.c3.length:Int)\/1048576<=s.next then(s,⟨20,0⟩)
 else if¬s.eR=0/\s.eR<(eX (s.c3++[⟨0,0,c.c6,false,⟨[]⟩⟩]):Int)then(s,⟨19,0⟩)
 else({s with next:=s.next+1,eb:=th c.set s.eb,c3:=s.c3++[⟨s.next,c.set,c.c6,false,⟨[]⟩⟩]},⟨0,s.next⟩)
def eP(s:c5)(c:b6)(i:Nat):c5×l3:=
 if c.kind=5 then eF s i else if c.kind=7 then gy s i else if c.kind=11 then rC c s i else gU (decide (c.kind=9)) s i
section
variable{st:c5}{c:b6}
def ahK(h:16<=(st.c3.length:Int)\/1048576<=st.next):dg st c=(st,⟨20,0⟩):=O h
def ahO(a:(st.c3.length:Int)<16)(b:st.next<1048576)(h:¬st.eR=0)(d:st.eR<(eX (st.c3++[⟨0,0,c.c6,false,⟨[]⟩⟩]):Int)):dg st c=(st,⟨19,0⟩):=by
 unfold dg;rw[X N,O ⟨h,d⟩]
def alJ(a:(st.c3.length:Int)<16)(b:st.next<1048576)(h:st.eR=0\/(eX (st.c3++[⟨0,0,c.c6,false,⟨[]⟩⟩]):Int)<=st.eR):dg st c=({st with next:=st.next+1,eb:=th c.set st.eb,c3:=st.c3++[⟨st.next,c.set,c.c6,false,⟨[]⟩⟩]},⟨0,st.next⟩):=by
 unfold dg;rw[X N,X (λd=>h.elim d.1 λh=>by omega)]
variable{i:Int}{x:ie}
def aqy(k:c.kind=5)(d:st.c3[i.toNat]? =some x)(h:x.held=true):eP st c i.toNat=(st,⟨17,0⟩):=by
 unfold eP eF;rw[O k,Ml d,O h]
def apX(k:c.kind=5)(d:0<=i)(e:st.c3[i.toNat]? =some x)(h:x.held=false)(f:iN st i=true):eP st c i.toNat=(st,⟨18,0⟩):=by
 unfold eP eF;rw[O k,Ml e,X (by rw[h];decide),Int.toNat_of_nonneg d,O f]
def aqZ(k:c.kind=5)(d:0<=i)(f:st.c3[i.toNat]? =some x)(h:x.held=false)(g:iN st i=false)(e:c.id=(st.c3.getD i.toNat (c4 (.nm .snap))).id):eP st c i.toNat=(c5.mk st.bo st.next st.dc st.eR st.c8 st.eb (aU c.id st.c3),⟨0,(iy st.c3 c.id).length⟩):=by
 unfold eP eF;rw[O k,<-e,Ml f,X (by rw[h];decide),Int.toNat_of_nonneg d,X (by rw[g];decide)]
def on7(n:¬c.kind=5)(k:c.kind=7)(d:st.c3[i.toNat]? =some x):eP st c i.toNat=(st,⟨0,x.c6.length⟩):=by
 unfold eP gy;rw[X n,O k,Ml d]
def arA(n:¬c.kind=5)(m:¬c.kind=7)(k:c.kind=11):eP st c i.toNat=rC c st i.toNat:=by
 unfold eP;rw[X n,X m,O k]
def aq5(n:¬c.kind=5)(m:¬c.kind=7)(o:¬c.kind=11)(d:st.c3[i.toNat]? =some x)(h:(x.held==decide (c.kind=9))=false):eP st c i.toNat=(c5.mk st.bo st.next st.dc st.eR st.c8 st.eb (st.c3.set i.toNat (ie.mk (st.c3.getD i.toNat (c4 (.nm .snap))).id (st.c3.getD i.toNat (c4 (.nm .snap))).set (st.c3.getD i.toNat (c4 (.nm .snap))).c6 (decide (c.kind=9)) (st.c3.getD i.toNat (c4 (.nm .snap))).tag)),⟨0,1⟩):=by
 unfold eP gU;rw[X n,X m,X o,X (by rw[Ml d];simpa using h)]
def aoj(n:¬c.kind=5)(m:¬c.kind=7)(o:¬c.kind=11)(d:st.c3[i.toNat]? =some x)(h:(x.held==decide (c.kind=9))=true):eP st c i.toNat=(st,⟨0,0⟩):=by
 unfold eP gU;rw[X n,X m,X o,O (by rw[Ml d];simpa using h)]
def onS(d:st.c3[i.toNat]? =some x)(h:(x.held==decide (c.kind=9))=true):st.c3.set i.toNat (ie.mk (st.c3.getD i.toNat (c4 (.nm .snap))).id (st.c3.getD i.toNat (c4 (.nm .snap))).set (st.c3.getD i.toNat (c4 (.nm .snap))).c6 (decide (c.kind=9)) (st.c3.getD i.toNat (c4 (.nm .snap))).tag)=st.c3:=by
 rw[Ml d,<-(by simpa using h:x.held=decide (c.kind=9))];obtain⟨hi,e⟩:=sy.1 d;subst e;exact X5 hi
end
def LP:CK 263 (aD vn av λ(st,c,_) _=>⟨[st.c3.length<1048576,tt (st.c3++[⟨0,0,c.c6,false,⟨[]⟩⟩])<=1048576,0<=st.next],[.agg ([.int ((dg st c).1.bo),.int ((dg st c).1.next),.int ((dg st c).1.dc),.int ((dg st c).1.eR),.own 0,.own 1,.own 2]),.agg (cellsOf (.nm .l8) ((dg st c).2))],some ([.row 119 (.nm .c8) ((dg st c).1.c8),.row 122 (.nm .opn) ((dg st c).1.eb),.row 125 (.nm .snap) ((dg st c).1.c3)]),true⟩):=ag λ(st,c,_) _ s=>by
 have v:=bw s;have w:=bw (de s);have y:=bw (de (de s));refine bU wk [] func263 (?_:(λ(h:Int)(q:Nat)(i:Int)(g:Int)(f:Int)(e:Int)=>(λ(j:ie)(o:l3)(r:List ie)(d:c5)=>(λ(p:Prop)(u:Prop)=>cK st (bf c ((16<=(q:Int)\/1048576<=e->W i->W e->W h->W f->W 20->W g->i=d.bo/\e=d.next/\h=d.dc/\f=d.eR/\20=o.code/\p)/\((q:Int)<16/\e<1048576->(¬f=g->(q<1048576/\tt r<=1048576)/\(W (↑(eX r):Int)->(f<(↑(eX r):Int)->W i->W e->W h->W f->W 19->W g->i=d.bo/\e=d.next/\h=d.dc/\f=d.eR/\19=o.code/\p)/\((↑(eX r):Int)<=f->W i->W e->W h->W f->u)))/\(f=g->W i->W e->W h->W f->u))))) (g=o.n/\st.c8=d.c8/\st.eb=d.eb/\st.c3=d.c3) (c.c6.length*8<=140737488355328/\(q+[j].length)*64<=140737488355328/\W (e+1)/\i=d.bo/\e+1=d.next/\h=d.dc/\f=d.eR/\g=o.code/\e=o.n/\st.c8=d.c8/\th c.set st.eb=d.eb/\st.c3++[j]=d.c3)) (ie.mk e c.set c.c6 false (n9.mk [])) (dg st c).2 (st.c3++[ie.mk g g c.c6 false (n9.mk [])]) (dg st c).1) st.dc st.c3.length st.bo 0 st.eR st.next);repeat' first|(with_reducible first|apply aH|refine aI ?_|intro)|exact aZ|(rw[ahK N];done)|(rw[ahO ap ap ap ap];done)|(rw[alJ ap ap N];done)|(simp only[x7,B2];omega)
def aeN:CK 267 (aD (ak qK uB) av λ(st,c,i,_) _=>⟨[0<=i/\i<(st.c3.length:Int),tt st.c3<=1048576,c.id=(st.c3.getD i.toNat (c4 (.nm .snap))).id,c.kind=5\/c.kind=7\/c.kind=11\/c.kind=9\/c.kind=10],[.agg ([.int ((eP st c i.toNat).1.bo),.int ((eP st c i.toNat).1.next),.int ((eP st c i.toNat).1.dc),.int ((eP st c i.toNat).1.eR),.own 0,.own 1,.own 2]),.agg (cellsOf (.nm .l8) ((eP st c i.toNat).2))],some ([.row 119 (.nm .c8) ((eP st c i.toNat).1.c8),.row 122 (.nm .opn) ((eP st c i.toNat).1.eb),.row 125 (.nm .snap) ((eP st c i.toNat).1.c3)]),true⟩):=ag λ(st,c,i,_) _ F=>by
 have J:=bw F;have K:=bw (de F);have L:=bw (de (de F));have a:=bw (de (de (de F)));refine bU wk [] func267 (?_:(λI y z A G r=>(λs B o p=>(λH C=>(λe q d=>(λu v=>(λD f g h j w=>cK st (bf c (W i->o<=i/\s/\∀(x:ie),r[i.toNat]? =some x->bY x ((c.kind=5->(x.held=true->W B->W y->W z->W A->W 17->W o->j/\g/\f/\h/\17=C.2.code/\o=e/\w)/\(x.held=false->(iN st i=true->W B->W y->W z->W A->W 18->W o->j/\g/\f/\h/\18=C.2.code/\o=e/\w)/\(iN st i=false->tt r<=1048576/\((iy r c.id).length*8<=140737488355328->W B->W y->W z->W A->j/\g/\f/\h/\q/\(↑(iy r c.id).length:Int)=e/\v/\u/\aU c.id r=d.c3))))/\(¬c.kind=5->(c.kind=7->W B->W y->W z->W A->j/\g/\f/\h/\q/\(x.c6.length:Int)=e/\w)/\(¬c.kind=7->W B->W y->W z->W A->(c.kind=11->o<=i/\s/\bY p (j/\g/\f/\h/\q/\o=e/\v/\u/\r.set i.toNat (ie.mk p.id p.set p.c6 p.held c.text)=d.c3))/\(¬c.kind=11->((x.held==G)=false->o<=i/\s/\bY p (j/\g/\f/\h/\q/\1=e/\D))/\((x.held==G)=true->o<=i/\s/\bY p (j/\g/\f/\h/\q/\o=e/\D))))))))) (v/\u/\H=d.c3) (z=d.dc) (y=d.next) (A=d.eR) (B=d.bo) (v/\u/\r=d.c3)) (I=d.eb) (st.c8=d.c8)) C.2.n (o=C.2.code) C.1) (r.set i.toNat (ie.mk p.id p.set p.c6 G p.tag)) (eP st c i.toNat)) (i<(r.length:Int)) st.bo (0:Int) (r.getD i.toNat (c4 (Sh.nm NT.snap)))) st.eb st.next st.dc st.eR (decide (c.kind=9)) st.c3);repeat' first|(with_reducible first|apply aH|refine aI ?_|intro)|exact aZ|(rw[aqy Y Y Y];first|done|rfl)|(rw[apX Y N Y Y Y];first|done|rfl)|(rw[aqZ Y N Y Y Y Y];first|done|rfl)|(rw[on7 Y Y Y];first|done|rfl)|(rw[arA Y Y Y];first|done|rfl)|(rw[aq5 Y Y Y Y Y];first|done|rfl)|(rw[aoj Y Y Y Y Y];first|done|rfl|exact onS Y Y)
def Cz:=(ae aeN (ae LP wk))
section
variable{st:c5}{c:b6}
def Df{v:Int}(h:aO c v=0):1<=c.kind/\c.kind<=12:=by
 have n:=(tV h).2.1;by_cases k:1<=c.kind/\c.kind<=12
 .exact k
 refine absurd ?_ n;have e:∀i:Int,1<=i->i<=12->¬c.kind=i:=λi d f=>by omega
 simp[br,sT];simp[e 1,e 2,e 3,e 4,e 5,e 6,e 7,e 8,e 9,e 10,e 11,e 12]
def w_(h:(if bP st st.bo=0 then aO c st.bo else 1)=0):bP st st.bo=0/\aO c st.bo=0:=UD h
def aqJ(h:(if bP st st.bo=0 then aO c st.bo else 1)=0)(k:c.kind=1\/c.kind=8):cc st c=(st,⟨1,0⟩):=by
 rw[Ak h];rcases k with k|k<;>simp[tg,k]
def alH(h:(if bP st st.bo=0 then aO c st.bo else 1)=0)(k:c.kind=2):cc st c=fN st c:=by
 rw[Ak h];simp[tg,k]
def ajB(h:(if bP st st.bo=0 then aO c st.bo else 1)=0)(k:c.kind=2)(p:0<=aj n7.set c.set st.eb):cc st c=(st,⟨16,(st.eb.getD (aj n7.set c.set st.eb).toNat (c4 (.nm .opn))).a6⟩):=by
 rw[alH h k];exact O p
def al0(h:(if bP st st.bo=0 then aO c st.bo else 1)=0)(k:c.kind=2)(p:aj n7.set c.set st.eb<0):cc st c=(c5.mk st.bo st.next st.dc st.eR st.c8 (gJ n7.set (n7.mk c.set c.a6) st.eb) st.c3,⟨0,0⟩):=by
 rw[alH h k,uP (x:=n7.mk c.set c.a6) (rU (w_ h).1).1 λy d=>uF (key:=n7.set) (want:=c.set) p y d];exact X N
theorem ahP(o:aj n7.set c.set st.eb<0\/¬(st.eb.getD (aj n7.set c.set st.eb).toNat (c4 (.nm .opn))).a6=c.a6):cV st c<0:=by
 unfold cV;split
 .decide
 grind
def akT(p:0<=aj n7.set c.set st.eb)(o:(st.eb.getD (aj n7.set c.set st.eb).toNat (c4 (.nm .opn))).a6=c.a6):cV st c=aj n7.set c.set st.eb:=by
 unfold cV;exact X λh=>h.2 o
def ait(h:(if bP st st.bo=0 then aO c st.bo else 1)=0)(k:c.kind=3):cc st c=fb st c:=by
 rw[Ak h];simp[tg,k]
def ajU(h:(if bP st st.bo=0 then aO c st.bo else 1)=0)(k:c.kind=4):cc st c=fx st c:=by
 rw[Ak h];simp[tg,k]
def anR(h:(if bP st st.bo=0 then aO c st.bo else 1)=0)(k:c.kind=3\/c.kind=4)(o:aj n7.set c.set st.eb<0\/¬(st.eb.getD (aj n7.set c.set st.eb).toNat (c4 (.nm .opn))).a6=c.a6):cc st c=(st,⟨15,0⟩):=by
 rcases k with k|k
 .rw[ait h k];exact O (ahP o)
 rw[ajU h k];exact O (ahP o)
def ail(h:(if bP st st.bo=0 then aO c st.bo else 1)=0)(k:c.kind=3)(p:0<=aj n7.set c.set st.eb)(o:(st.eb.getD (aj n7.set c.set st.eb).toNat (c4 (.nm .opn))).a6=c.a6):cc st c=dg st c:=by
 rw[ait h k];unfold fb dg;rw[akT p o,X N,Tz (rU (w_ h).1).1 p]
def aiU(h:(if bP st st.bo=0 then aO c st.bo else 1)=0)(k:c.kind=4)(p:0<=aj n7.set c.set st.eb)(o:(st.eb.getD (aj n7.set c.set st.eb).toNat (c4 (.nm .opn))).a6=c.a6):cc st c=(c5.mk st.bo st.next st.dc st.eR st.c8 (th c.set st.eb) st.c3,⟨0,0⟩):=by
 rw[ajU h k];unfold fx;rw[akT p o,X N,Tz (rU (w_ h).1).1 p]
def am7(h:(if bP st st.bo=0 then aO c st.bo else 1)=0)(k:c.kind=6):cc st c=(c5.mk st.bo st.next c.n st.eR st.c8 st.eb st.c3,⟨0,0⟩):=by
 rw[Ak h];simp[tg,k,sO]
def ap7(h:(if bP st st.bo=0 then aO c st.bo else 1)=0)(k:c.kind=12):cc st c=(c5.mk st.bo st.next st.dc c.n st.c8 st.eb st.c3,⟨0,eX st.c3⟩):=by
 rw[Ak h];simp[tg,k,oT]
def CB(h:(if bP st st.bo=0 then aO c st.bo else 1)=0)(k:¬c.kind=1/\¬c.kind=8/\¬c.kind=2/\¬c.kind=3/\¬c.kind=4/\¬c.kind=6/\¬c.kind=12):c.kind=5\/c.kind=7\/c.kind=11\/c.kind=9\/c.kind=10:=by
 have:=Df (w_ h).2;omega
def aht(h:(if bP st st.bo=0 then aO c st.bo else 1)=0)(k:¬c.kind=1/\¬c.kind=8/\¬c.kind=2/\¬c.kind=3/\¬c.kind=4/\¬c.kind=6/\¬c.kind=12):cc st c=bZ (λs i=>eP s c i) c st:=by
 rw[Ak h];rcases CB h k with k|k|k|k|k<;>simp[tg,k,eP]
def amf(h:(if bP st st.bo=0 then aO c st.bo else 1)=0)(k:¬c.kind=1/\¬c.kind=8/\¬c.kind=2/\¬c.kind=3/\¬c.kind=4/\¬c.kind=6/\¬c.kind=12)(p:aj ie.id c.id st.c3<0):cc st c=(st,⟨15,0⟩):=by
 rw[aht h k];exact O p
def akY(h:(if bP st st.bo=0 then aO c st.bo else 1)=0)(k:¬c.kind=1/\¬c.kind=8/\¬c.kind=2/\¬c.kind=3/\¬c.kind=4/\¬c.kind=6/\¬c.kind=12)(p:0<=aj ie.id c.id st.c3):cc st c=eP st c (aj ie.id c.id st.c3).toNat:=by
 rw[aht h k];exact X N
def akz(p:0<=aj ie.id c.id st.c3):c.id=(st.c3.getD (aj ie.id c.id st.c3).toNat (c4 (.nm .snap))).id:=(re p).1.symm
theorem adf(h:(if bP st st.bo=0 then aO c st.bo else 1)=0)(k:c.kind=3):tt (st.c3++[⟨0,0,c.c6,false,⟨[]⟩⟩])<=1048576:=by
 have f:=II (w_ h).1;have g:=Em (tV (w_ h).2).2.2.2 k;have d:bO c.c6=true:=by grind[ly]
 have i:=(tz d).2;have e:tt (st.c3++[⟨0,0,c.c6,false,⟨[]⟩⟩])=tt st.c3+c.c6.length:=by simp[tt]
 omega
end
theorem VV:CK 239 (aD vn av λ(st,c,_) _=>⟨[],[.agg ([.int ((cc st c).1.bo),.int ((cc st c).1.next),.int ((cc st c).1.dc),.int ((cc st c).1.eR),.own 0,.own 1,.own 2]),.agg (cellsOf (.nm .l8) ((cc st c).2))],some ([.row 119 (.nm .c8) ((cc st c).1.c8),.row 122 (.nm .opn) ((cc st c).1.eb),.row 125 (.nm .snap) ((cc st c).1.c3)]),true⟩):=ag λ(st,c,_) _ _=>by
 refine bU Cz [] func239 (?_:(λF S I G T q j r d=>(λy s i B=>(λu C f=>(λa L=>(λh z H=>(λb J=>(λD P=>(λg e=>(λv w o p A=>(λK=>(λU V=>cK st (bf c (W a->(¬a=f->W i->W j->W q->W r->W a->W f->p/\o/\v/\w/\a=h/\z/\A)/\(a=f->(d=1\/d=8->W i->W j->W q->W r->W 1->W f->p/\o/\v/\w/\1=h/\z/\A)/\(¬d=1/\¬d=8->W i->W j->W q->W r->W H->(d=2->(f<=H->b/\(W J.set->W D->p/\o/\v/\w/\16=h/\D=L.n/\A))/\(H<f->s.length<1048576/\p/\o/\v/\w/\f=h/\z/\I=e.c8/\gJ n7.set (n7.mk c.set c.a6) s=e.eb/\B=e.c3))/\(¬d=2->(y->(y->U)/\(¬y->V))/\(¬y->(d=4->U)/\(¬d=4->V)))))))) ((H<f->W i->W j->W q->W r->W F->W f->K)/\(f<=H->b/\(W J.set->W D->(¬D=c.a6->W i->W j->W q->W r->W F->W f->K)/\(D=c.a6->(y->B.length<1048576/\tt (B++[ie.mk f f c.c6 false (n9.mk [])])<=1048576/\f<=j/\(W C.bo->W C.next->W C.dc->W C.eR->W G.code->W G.n->C.bo=e.bo/\C.next=e.next/\C.dc=e.dc/\C.eR=e.eR/\G.code=h/\G.n=L.n/\C.c8=e.c8/\C.eb=e.eb/\C.c3=e.c3))/\(¬y->p/\o/\v/\w/\f=h/\z/\I=e.c8/\th c.set s=e.eb/\B=e.c3))))) ((d=6->p/\o/\c.n=e.dc/\w/\f=h/\z/\A)/\(¬d=6->(d=12->tt B<=1048576/\(W (↑(eX B):Int)->p/\o/\v/\c.n=e.eR/\f=h/\(↑(eX B):Int)=L.n/\A))/\(¬d=12->W u->(u<f->W i->W j->W q->W r->W F->W f->K)/\(f<=u->(f<=u/\u<(B.length:Int))/\tt B<=1048576/\c.id=(B.getD u.toNat (c4 (Sh.nm NT.snap))).id/\(d=5\/d=7\/d=11\/d=9\/d=10)/\(W g.bo->W g.next->W g.dc->W g.eR->W P.2.code->W P.2.n->g.bo=e.bo/\g.next=e.next/\g.dc=e.dc/\g.eR=e.eR/\P.2.code=h/\P.2.n=L.n/\g.c8=e.c8/\g.eb=e.eb/\g.c3=e.c3)))))) (p/\o/\v/\w/\F=h/\z/\A)) (q=e.dc) (r=e.eR) (j=e.next) (i=e.bo) (I=e.c8/\s=e.eb/\B=e.c3)) P.1 (cc st c).1) J.a6 (eP st c u.toNat)) (f<=H/\H<(s.length:Int)) (s.getD H.toNat T)) L.code (f=L.n) (aj n7.set c.set s)) (if bP st i=f then aO c i else 1) (cc st c).2) (aj ie.id c.id B) (dg st c).1 (0:Int)) (d=S) st.eb st.bo st.c3) (15:Int) (3:Int) st.c8 (dg st c).2 (c4 (Sh.nm NT.opn)) st.dc st.next st.eR c.kind);repeat' first|(with_reducible first|apply aH|refine aI ?_|intro)|exact aZ|exact(FM Y)|exact(OA Y)|exact(CG Y)|exact(MT Y)|exact(NN Y)|exact dH Y|exact akz Y|exact adf Y Y|exact CB Y N|(rw[ahH Y];done)|(rw[aqJ ap ap];first|done|rfl)|(rw[ajB ap ap ap];first|done|rfl)|(rw[al0 ap ap ap];first|done|rfl)|(rw[anR ap N N];first|done|rfl)|(rw[ail ap ap ap ap];first|done|rfl)|(rw[aiU ap (by first|assumption|(have:=Df (w_ ap).2;omega)) ap ap];first|done|rfl)|(rw[am7 ap ap];first|done|rfl)|(rw[ap7 ap ap];first|done|rfl)|(rw[amf ap N ap];first|done|rfl)|(rw[akY ap N ap];first|done|rfl)
def DG:=(ae VV Cz)
section
variable{st:c5}{c:b6}
def ao6(h:(if bP st st.bo=0 then aO c st.bo else 1)=0)(k:c.kind=1)(p:aj eS.a6 c.a6 st.c8<0):jS st c=(c5.mk st.bo st.next st.dc st.eR (gJ eS.a6 (eS.mk c.a6 0 (l3.mk 0 0)) st.c8) st.eb st.c3,⟨0,0⟩):=by
 rw[aip h k p,uP (x:=eS.mk c.a6 0 (l3.mk 0 0)) (Ug (w_ h).1).1 λy d=>uF (key:=eS.a6) (want:=c.a6) p y d]
def arO(h:(if bP st st.bo=0 then aO c st.bo else 1)=0)(d:¬c.kind=8)(e:¬c.kind=1)(p:aj eS.a6 c.a6 st.c8<0):jS st c=(st,⟨11,0⟩):=(T9 h d e).trans (as1 p)
def ars(h:(if bP st st.bo=0 then aO c st.bo else 1)=0)(d:¬c.kind=8)(f:¬c.kind=1)(p:0<=aj eS.a6 c.a6 st.c8)(e:c.seq=(st.c8.getD (aj eS.a6 c.a6 st.c8).toNat (c4 (.nm .c8))).seq):jS st c=(st,(st.c8.getD (aj eS.a6 c.a6 st.c8).toNat (c4 (.nm .c8))).last):=(T9 h d f).trans (as2 p e)
def aps(h:(if bP st st.bo=0 then aO c st.bo else 1)=0)(d:¬c.kind=8)(f:¬c.kind=1)(p:0<=aj eS.a6 c.a6 st.c8)(e:c.seq<(st.c8.getD (aj eS.a6 c.a6 st.c8).toNat (c4 (.nm .c8))).seq):jS st c=(st,⟨13,0⟩):=(T9 h d f).trans (as3 p N e)
def ap5(h:(if bP st st.bo=0 then aO c st.bo else 1)=0)(d:¬c.kind=8)(f:¬c.kind=1)(p:0<=aj eS.a6 c.a6 st.c8)(e:(st.c8.getD (aj eS.a6 c.a6 st.c8).toNat (c4 (.nm .c8))).seq+1<c.seq):jS st c=(st,⟨14,0⟩):=(T9 h d f).trans (as4 p N N e)
def amY(h:(if bP st st.bo=0 then aO c st.bo else 1)=0)(f:¬c.kind=8)(g:¬c.kind=1)(p:0<=aj eS.a6 c.a6 st.c8)(e:¬c.seq=(st.c8.getD (aj eS.a6 c.a6 st.c8).toNat (c4 (.nm .c8))).seq)(i:(st.c8.getD (aj eS.a6 c.a6 st.c8).toNat (c4 (.nm .c8))).seq<=c.seq)(j:c.seq<=(st.c8.getD (aj eS.a6 c.a6 st.c8).toNat (c4 (.nm .c8))).seq+1):
  jS st c=(c5.mk (cc st c).1.bo (cc st c).1.next (cc st c).1.dc (cc st c).1.eR ((cc st c).1.c8.set (aj eS.a6 c.a6 st.c8).toNat (eS.mk c.a6 c.seq (cc st c).2)) (cc st c).1.eb (cc st c).1.c3,(cc st c).2):=by
 rw[XV (w_ h).1 (w_ h).2 f g p N,(re (d:=c4 (.nm .c8)) p).1,oa]
def apk(h:(if bP st st.bo=0 then aO c st.bo else 1)=0)(p:0<=aj eS.a6 c.a6 st.c8):W ((st.c8.getD (aj eS.a6 c.a6 st.c8).toNat (c4 (.nm .c8))).seq+1):=aif (v:=st.bo) (nx:=st.next) (kp:=st.dc) (qt:=st.eR) (op:=st.eb) (sn:=st.c3) h p
def al8(p:0<=aj eS.a6 c.a6 st.c8):aj eS.a6 c.a6 st.c8<((cc st c).1.c8.length:Int):=by rw[oa];exact dH p
end
def ac3:CK 216 (aD vn av λ(st,c,_) _=>⟨[],[.agg ([.int ((jS st c).1.bo),.int ((jS st c).1.next),.int ((jS st c).1.dc),.int ((jS st c).1.eR),.own 0,.own 1,.own 2]),.agg (cellsOf (.nm .l8) ((jS st c).2))],some ([.row 119 (.nm .c8) ((jS st c).1.c8),.row 122 (.nm .opn) ((jS st c).1.eb),.row 125 (.nm .snap) ((jS st c).1.c3)]),true⟩):=ag λ(st,c,_) _ _=>by
 refine bU DG [] func216 (?_:(λJ K z d j o B a D=>(λL u v e F=>(λf G H r=>(λI p g h i=>(λC=>(λw y=>(λA q=>(λs=>cK st (bf c (W H->(¬H=e->W v->W j->W o->W B->W H->W e->p/\i/\h/\g/\H=f/\w)/\(H=e->W y->W v->W j->W o->W B->(c.kind=8->W (v+d)/\(¬c.n=v+d->W v->W j->W o->W B->W d->W e->p/\i/\h/\g/\d=f/\w)/\(c.n=v+d->c.n=r.bo/\i/\h/\g/\e=f/\c.n=F.n/\C))/\(¬c.kind=8->(c.kind=d->(e<=y->W v->W j->W o->W B->W 12->W e->p/\i/\h/\g/\12=f/\w)/\(y<e->D.length<1048576/\p/\i/\h/\g/\e=f/\G/\gJ eS.a6 (eS.mk c.a6 e (l3.mk e e)) D=r.c8/\I))/\(¬c.kind=d->(y<e->W v->W j->W o->W B->W 11->W e->p/\i/\h/\g/\11=f/\w)/\(e<=y->A/\dL q ((c.seq=s->A/\dL q (p/\i/\h/\g/\q.last.code=f/\q.last.n=F.n/\C))/\(¬c.seq=s->A/\dL q ((c.seq<s->W v->W j->W o->W B->W 13->W e->p/\i/\h/\g/\13=f/\w)/\(s<=c.seq->A/\dL q (W (s+d))/\dL q ((s+d<c.seq->W v->W j->W o->W B->W 14->W e->p/\i/\h/\g/\14=f/\w)/\(c.seq<=s+d->W u.bo->W u.next->W u.dc->W u.eR->W z.code->W z.n->e<=y/\y<(u.c8.length:Int)/\dL (u.c8.getD y.toNat a) (u.bo=r.bo/\u.next=r.next/\u.dc=r.dc/\u.eR=r.eR/\z.code=f/\z.n=F.n/\u.c8.set y.toNat (eS.mk c.a6 c.seq z)=r.c8/\u.eb=r.eb/\u.c3=r.c3)))))))))))))) q.seq) (e<=y/\y<L) (D.getD y.toNat a)) (G/\C) (aj eS.a6 c.a6 D)) (D=r.c8/\I)) (K=r.eb/\J=r.c3) (v=r.bo) (B=r.eR) (o=r.dc) (j=r.next)) F.code (e=F.n) (if bP st v=e then aO c v else d) (jS st c).1) (D.length:Int) (cc st c).1 st.bo (0:Int) (jS st c).2) st.c3 st.eb (cc st c).2 (1:Int) st.next st.dc st.eR (c4 (Sh.nm NT.c8)) st.c8);repeat' first|(with_reducible first|apply aH|refine aI ?_|intro)|exact aZ|exact(FM Y)|exact(OA Y)|exact(CG Y)|exact(MT Y)|exact(NN Y)|exact ahC Y|exact CG Y|exact dH Y|exact apk Y Y|exact al8 Y|(rw[doE Y];done)|(rw[alf Y Y Y];first|done|rfl)|(rw[ajM Y Y Y];first|done|rfl)|(rw[akB Y Y Y];first|done|rfl)|(rw[ao6 Y Y Y];first|done|rfl)|(rw[arO Y Y Y Y];first|done|rfl)|(rw[ars Y Y Y Y Y];first|done|rfl)|(rw[aps Y Y Y Y Y];first|done|rfl)|(rw[ap5 Y Y Y Y Y];first|done|rfl)|(rw[amY Y Y Y Y Y Y Y];first|done|rfl)
def Du:=(ae ac3 DG)
def xN(l:List Int):Int:=match l.findIdx? (λx=>!n8 x)with
 |some i=>(i:Int)
 |none=>-1
section
variable{l:List Int}{k:Nat}{x:Int}
theorem xB:xN l=aj (λx=>if n8 x=true then 0 else 1) 1 l:=by
 have e:(λx=>!n8 x)=λx:Int=>decide ((if n8 x=true then(0:Int)else 1)=1):=by grind
 unfold xN aj;rw[e];rfl
theorem afh(h:xN (l.take k)= -1)(c:l[k]? =some x)(d:(!n8 x)=false):xN (l.take (k+1))= -1:=by grind[xB,jx]
theorem Xx(h:xN (l.take k)= -1)(c:l[k]? =some x)(d:(!n8 x)=true):(k:Int)=xN l:=by grind[xB,im]
def aep(h:xN (l.take k)= -1)(c:l.length<=k):-1=xN l:=by rw[take_of_length_le c]at h;exact h.symm
theorem UW:decide (0<=xN l)= !l.all n8:=by
 cases e:l.findIdx? (λx=>!n8 x)with
 |none=>
  have h:=List.findIdx?_eq_none_iff.1 e;have:l.all n8=true:=Hm.2 λx c=>by simpa using h x c
  unfold xN;rw[e,this];rfl
 |some i=>
  obtain⟨hi,d,_⟩:=S5.1 e;have:l.all n8=false:=by grind
  unfold xN;rw[e,this];show decide (0<=(i:Int))=true;rw[u9];omega
end
theorem Ur:CK 66 (aD fj av λ(k,_) _=>{rs:=[.c (.bool (.atom (n8 k)))]}):=ag λ(k,_) _ _=>by
 refine al Du [] func66 (?_:W k->(decide (1<=k)&&decide (k<=3))=n8 k);grind[n8]
def wG:=(ae Ur Du)
section
variable{st:c5}{v:Int}
end
theorem Jo:CK 37 (aD ij av λ(a,b,_) _=>{rs:=[.c (.int (bH a b))]}):=ag λ(a,b,_) _ _=>by
 refine al wG [] func37 (?_:W a->W b->(n8 a=false\/n8 b=false->1=bH a b)/\(n8 a=true/\n8 b=true->(a<b->32=bH a b)/\(b<=a->0=bH a b)));grind[bH,n8]
theorem Uj:CK 176 (aD fj av λ(n,_) _=>{rs:=[.c (.bool (.atom (!n8 n)))]}):=ag λ(n,_) _ _=>by
 refine al wG [] func176 (?_:W n->(!n8 n)= !n8 n);grind
def wL:=(ae Uj (ae Jo wG))
variable{l:List Int}
def Zz{s:Nat}{x:Int}(c:l[((s:Int)+1).toNat]? =some x):min (jW l (s+1)) x=jW l (s+1+1):=FL N (by rwa[show((s:Int)+1).toNat=s+1 by omega]at c)
def WZ(l:List Int):List (Nat×LI):=[(2,{σ:=Nat,F:=λk=>([(0,one (.fz .int l)),(1,one (.fn 176 [] [])),(7,one (.int l.length)),(8,one (.int k))],[]),J:=λk=>k<=l.length/\xN (l.take k)= -1,μ:=λk=>l.length-k})]
def aiH(l:List Int):List (Nat×LI):=[(5,{σ:=Nat,F:=λk=>([(0,one (.fz .int l)),(3,one (.int (jW l (k+1)))),(4,one (.int (k+1)))],[]),J:=λk=>k+1<=l.length,μ:=λk=>l.length-k})]
theorem Nx:CK 206 (aD (ak pw (ak (kC (ub 176 [] [])) bS)) av λ(l,_,_) _=>{rs:=[.c (.int (xN l))]}):=ag λ(l,_,_) _ _=>by
 refine al wL (WZ l) func206 (?_:(λ(e:Int)(d:Nat)=>l.length*8<=140737488355328->∃(g:Nat),(l=l/\(l.length:Int)=(d:Int)/\0=(g:Int))/\(g<=d/\xN (take g l)= -e)/\∀(s:Nat),s<=d/\xN (take s l)= -e->((s:Int)<(d:Int)->0<=(s:Int)/\(s:Int)<(l.length:Int)/\∀(x:Int),l[s]? =some x->W x->((!n8 x)=true->(s:Int)=xN l)/\((!n8 x)=false->W ((s:Int)+e)/\∃(f:Nat),(l=l/\(d:Int)=(d:Int)/\(s:Int)+e=(f:Int))/\(f<=d/\xN (take f l)= -e)/\d-f<d-s))/\((d:Int)<=(s:Int)-> -e=xN l)) 1 l.length);repeat' first|(with_reducible first|apply aH|refine aI ?_|intro)|exact aZ|exact rfl|exact(afh Y Y Y)|exact(Xx Y Y Y)|exact(aep Y N)|refine⟨‹Nat›+1,?_⟩|refine⟨0,?_⟩
theorem ae3:CK 178 (aD iS av λ(l,_) _=>{pre:=[0<l.length],rs:=[.c (.int (Ap l))]}):=ag λ(l,_) _ j=>by
 have o:=bw j;refine al wL (aiH l) func178 (?_:(λe g d=>l.length*(8:Nat)<=(140737488355328:Nat)->(g<d->False)/\(d<=g->(0:Int)<=(0:Int)/\(0:Int)<g/\∀(x:Int),l[(0:Nat)]? =some x->W x->∃i,(l=l/\x=jW l (i+e)/\d=(i:Int)+d)/\i+e<=l.length/\∀(s:Nat),(λf=>s+e<=l.length->(f<g->(0:Int)<=f/\f<g/\∀(x:Int),l[f.toNat]? =some x->W x->W (f+d)/\∃h,(l=l/\min (jW l (s+e)) x=jW l (h+e)/\f+d=(h:Int)+d)/\h+e<=l.length/\l.length-h<l.length-s)/\(g<=f->jW l (s+e)=Ap l)) ((s:Int)+d))) (1:Nat) (l.length:Int) (1:Int));repeat' first|(with_reducible first|apply aH|refine aI ?_|intro)|exact aZ|exact(LG Y)|exact(Zz Y)|exact(Lh N)|refine⟨‹Nat›+1,?_⟩|refine⟨0,?_⟩
def Dn:=(ae ae3 (ae Nx wL))
def Zo:CK 177 (aD (ak pw (ak (kC (ub 176 [] [])) bS)) av λ(l,_,_) _=>{rs:=[.c (.bool (.atom (!l.all n8)))]}):=ag λ(l,_,_) _ _=>by
 refine al Dn [] func177 (?_:l.length*8<=140737488355328->W (xN l)->decide (0<=xN l)= !l.all n8);repeat' first|(with_reducible first|apply aH|refine aI ?_|intro)|exact aZ|exact(UW)
def AS:=(ae Zo Dn)
theorem aqw(o:(l.length:Int)=0\/(!l.all n8)=true):0=dK l:=by
 have h:(decide (l.length=0)|| !l.all n8)=true:=by grind
 unfold dK;rw[O h]
theorem arR(o:¬(l.length:Int)=0)(h:(!l.all n8)=false):Ap l=dK l:=by
 have h:¬(decide (l.length=0)|| !l.all n8)=true:=by grind
 unfold dK;rw[X h]
def QZ:CK 125 (aD iS av λ(l,_) _=>{rs:=[.c (.int (dK l))]}):=ag λ(l,_) _ _=>by
 refine al AS [] func125 (?_:l.length*8<=140737488355328->((l.length:Int)=0\/(!l.all n8)=true->0=dK l)/\(¬(l.length:Int)=0/\(!l.all n8)=false->0<l.length/\(W (Ap l)->Ap l=dK l)));repeat' first|(with_reducible first|apply aH|refine aI ?_|intro)|exact aZ|exact(aqw ap)|exact(arR Y Y)
def Be:=(ae QZ AS)
theorem Nz:CK 74 (aD (ak dj iS) av λ(v,l,_) _=>{rs:=[.c (.bool (.atom (eQ v l)))]}):=ag λ(v,l,_) _ _=>by
 refine al Be [] func74 (?_:W v->l.length*8<=140737488355328->(1<=v/\v<3->W (dK l))->(decide (1<=v)&&decide (v<3)&&decide (v<dK l))=eQ v l);repeat' first|(with_reducible first|apply aH|refine aI ?_|intro)|exact aZ|rfl|grind[eQ]
def Ru:=(ae Nz Be)
def Sx:=Ru
section
variable{s:c5}{l:List b6}{x:b6}{k:Nat}
end
section
variable{s:c5}{l:List b6}{x:b6}{k:Nat}{d:b6}
end
def Mu:=Sx
def eT:=Mu
def du(f:Field):Bool:=(decide (1<=f.num)&&decide (f.num<=1000))&&(if f.hC=0 then decide (((f.b.length:Nat):Int)=0)else if f.hC=2 then decide ((f.n.n:Int)=0)else false)
def dM(a f:Field):Bool:=if f.num=a.num then(decide (f.hC=2)&&decide (a.hC=2))else decide (a.num<f.num)
def sJ(num c:Int):Bool:=(decide (1<=num)&&decide (num<=1000))&&(decide (c=0)||decide (c=2))
def mm(num c:Int):List UInt8:=if sJ num c then bm ((8*num)+c).toNat else[]
def kK(num c:Int):Int:=if sJ num c then 0 else 1
def bW(f:Field):List UInt8:=if f.hC=0 then mm f.num f.hC++bm f.n.n else(mm f.num f.hC++bm f.b.length)++f.b
def Z9:Option Field->Field->Bool
 |none,_=>true
 |some q,f=>dM q f
def stepT(p:Option Field)(f:Field):Int:=if du f=false then 1 else if Z9 p f=false then 5 else if(16384:Int)<((f.b.length:Nat):Int)then 4 else 0
def dT:Option Field->List Field->Int
 |_,[]=>0
 |p,f::r=>if stepT p f=0 then dT (some f) r else stepT p f
def fO(l:List Field):Nat:=(l.map λf=>(bW f).length).sum
def ck(l:List Field):Int:=if dT none l=0 then(if(16384:Int)<((fO l:Nat):Int)then 4 else 0)else dT none l
def jt(l:List Field):List UInt8:=if ck l=0 then(l.map bW).flatten else[]
def ft(l:List Field)(k:Nat):Option Field:=if k=0 then none else l[k-1]?
def zd(l:List Field)(k:Nat)(x:Field):Prop:=(¬0<k)\/∃y,l[k-1]? =some y/\dM y x=true
variable{hC num:Int}
def TQ(h:(num<1\/1000<num)\/(¬hC=0/\¬hC=2)):sJ num hC=false:=by
 rw[<-Bool.not_eq_true];unfold sJ;simp;omega
def IY(h:¬((num<1\/1000<num)\/(¬hC=0/\¬hC=2))):sJ num hC=true:=by
 unfold sJ;simp;omega
def tL(h:(num<1\/1000<num)\/(¬hC=0/\¬hC=2)):[]=mm num hC:=by rw[mm,TQ h];rfl
theorem pY(h:(num<1\/1000<num)\/(¬hC=0/\¬hC=2)):1=kK num hC:=by rw[kK,TQ h];rfl
def Da(h:¬((num<1\/1000<num)\/(¬hC=0/\¬hC=2))):bm ((8*num)+hC).toNat=mm num hC:=by rw[mm,IY h];rfl
theorem ni(h:¬((num<1\/1000<num)\/(¬hC=0/\¬hC=2))):0=kK num hC:=by rw[kK,IY h];rfl
def kV(num hC:Int):(mm num hC).length<=10:=by
 unfold mm;cases h:sJ num hC with
 |false=>simp
 |true=>
  unfold sJ at h;simp at h;exact cH N
variable{f:Field}
theorem lI(c:f.b.length<=16384)(d:f.n.n<18446744073709551616):(bW f).length<=16404:=by
 have e:=kV f.num f.hC;unfold bW;split
 .grind[cH]
 grind[cH]
def GH(h:f.hC=0):mm f.num f.hC++bm f.n.n=bW f:=by rw[bW,O h]
def Gu(h:¬f.hC=0):(mm f.num f.hC++bm f.b.length)++f.b=bW f:=by rw[bW,X h]
variable{x:Field}{l:List Field}
def Bm(c:l[k]? =some x):fO (l.take k)+(bW x).length=fO (l.take (k+1)):=by
 unfold fO;rw[ah c,L0,List.sum_append];simp
def HU(d:zd l k x):Z9 (ft l k) x=true:=by
 unfold ft;rcases d with h|⟨y,e,g⟩
 .rw[O N];rfl
 by_cases c:k=0
 .rw[O c];rfl
 rw[X c,e];exact g
def Sz(c:l[k]? =some x):dT (ft l k) (l.drop k)=if stepT (ft l k) x=0 then dT (some x) (l.drop (k+1))else stepT (ft l k) x:=by
 obtain⟨d,e⟩:=sy.1 c;rw[K6 d,e];rfl
variable{e:Int}
def SC(d:dT none l=dT (ft l k) (l.drop k))(g:l[k]? =some x)(h:stepT (ft l k) x=e)(c:e≠0):e=ck l:=by
 have i:dT none l=e:=by rw[d,Sz g,h,X c]
 rw[ck,i,X c]
def Ok(c:dT none l=dT (ft l k) (l.drop k))(d:l[k]? =some x)(g:du x=false):1=ck l:=SC c d (by rw[stepT,O g]) am
def Nw{y:Field}(c:dT none l=dT (ft l k) (l.drop k))(d:l[k]? =some x)(g:du x=true)(j:0<k)(h:l[k-1]? =some y)(i:dM y x=false):5=ck l:=
 SC c d (by rw[stepT,X (by rw[g];decide),O];unfold ft;rw[X N,h];exact i) am
def Rg(c:dT none l=dT (ft l k) (l.drop k))(d:l[k]? =some x)(g:du x=true)(h:zd l k x)(i:(16384:Int)<((x.b.length:Nat):Int)):4=ck l:=
 SC c d (by rw[stepT,X (by rw[g];decide),X (by rw[HU h];decide),O i]) am
def Ax(d:dT none l=dT (ft l k) (l.drop k))(c:l[k]? =some x)(g:du x=true)(h:zd l k x)(i:¬(16384:Int)<((x.b.length:Nat):Int)):dT none l=dT (ft l (k+1)) (l.drop (k+1)):=by
 rw[d,Sz c,O (by rw[stepT,X (by rw[g];decide),X (by rw[HU h];decide),X i])];unfold ft;rw[X N,Nat.add_sub_cancel,c]
def yE(c:dT none l=dT (ft l k) (l.drop k))(d:l.length<=k):dT none l=0:=by
 rw[c,M1 d];rfl
def PD(g:dT none l=dT (ft l k) (l.drop k))(c:l.length<=k)(d:(16384:Int)<((fO (l.take k):Nat):Int)):4=ck l:=by
 rw[take_of_length_le c]at d;rw[ck,O (yE g c),O d]
def Tt(g:dT none l=dT (ft l k) (l.drop k))(c:l.length<=k)(d:¬(16384:Int)<((fO (l.take k):Nat):Int)):0=ck l:=by
 rw[take_of_length_le c]at d;rw[ck,O (yE g c),X d]
theorem Xw(h:ck l=0):fO l<=16384:=by
 unfold ck at h;grind
theorem Aa(h:ck l=0):dT none l=0:=by
 unfold ck at h;grind
theorem Ix:∀{l:List Field} {p:Option Field},dT p l=0->∀x∈l,x.b.length<=16384
 |f::r,p,h,x,hx=>by
  unfold dT at h;split at h
  .rename_i c;rcases v7.1 hx with rfl|hx
   .unfold stepT at c;grind
   exact Ix h x hx
  grind
def pz(h:ck l=0)(c:x∈l):x.b.length<=16384:=Ix (Aa h) x c
def ym(c:l[k]? =some x):((l.take k).map bW).flatten++bW x=((l.take (k+1)).map bW).flatten:=by
 rw[ah c,L0,List.flatten_append];simp
def Nk(l:List Field):((l.map bW).flatten).length=fO l:=by
 unfold fO;rw[List.length_flatten,map_map];rfl
def Ql:fO (l.take k)<=fO l:=by
 have:fO l=fO (l.take k)+fO (l.drop k):=by unfold fO;rw[<-List.sum_append,<-L0,E7]
 omega
def Bf(h:ck l=0):((l.take k).map bW).flatten.length<=16384:=by
 have:=Xw h;have:=Ql (l:=l) (k:=k);rw[Nk];omega
def Ic(h:ck l=0)(c:l.length<=k):((l.take k).map bW).flatten=jt l:=by rw[jt,O h,take_of_length_le c]
def NM(h:¬ck l=0):[]=jt l:=by rw[jt,X h]
theorem Cp(h:f.num<1\/1000<f.num):false=du f:=by
 have:(decide (1<=f.num)&&decide (f.num<=1000))=false:=by rw[<-Bool.not_eq_true];simp;omega
 unfold du;rw[this];rfl
theorem qi(h:¬(f.num<1\/1000<f.num)):du f=(if f.hC=0 then decide (((f.b.length:Nat):Int)=0)else if f.hC=2 then decide ((f.n.n:Int)=0)else false):=by
 have:(decide (1<=f.num)&&decide (f.num<=1000))=true:=by simp;omega
 unfold du;rw[this];rfl
def a_:List l4:=([⟨1,0,1,true,false⟩,⟨2,0,1,false,false⟩,⟨3,0,1,false,false⟩,⟨4,0,1,false,false⟩,⟨5,0,1,false,false⟩,⟨6,0,1,false,false⟩,⟨7,2,1,false,false⟩,⟨8,2,3,false,false⟩]:List l4)
def aJ(v:Int):List l4:=if v<1\/3<v then[]else a_.filter λs=>decide (s.since<=v)
def bE(v:Int):Int:=(aJ v).foldl (λt s=>max t s.num) 0
variable{x:l4}
def Aw{v:Int}(c:a_[k]? =some x)(h:x.since<=v):(a_.take k).filter (λs=>decide (s.since<=v))++[x]=(a_.take (k+1)).filter (λs=>decide (s.since<=v)):=by
 rw[ah c,F4];simp[h]
theorem Hv{v:Int}(c:a_[k]? =some x)(h:¬x.since<=v):(a_.take k).filter (λs=>decide (s.since<=v))=(a_.take (k+1)).filter (λs=>decide (s.since<=v)):=by
 rw[ah c,F4];simp[h]
def JJ{v:Int}(h:v<1\/3<v):[]=aJ v:=by rw[aJ,O h]
def Ul{v:Int}(h:¬(v<1\/3<v))(c:a_.length<=k):(a_.take k).filter (λs=>decide (s.since<=v))=aJ v:=by rw[aJ,X h,take_of_length_le c]
def Br{v:Int}:((a_.take k).filter (λs=>decide (s.since<=v))).length<=8:=by
 have c:=N8 (λs:l4=>decide (s.since<=v)) (a_.take k);have d:(a_.take k).length<=8:=by rw[sh];exact zc (Nat.min_le_right _ _) am
 omega
def DJ{v:Int}(c:(aJ v)[k]? =some x):max (((aJ v).take k).foldl (λt s=>max t s.num) 0) x.num=((aJ v).take (k+1)).foldl (λt s=>max t s.num) 0:=by
 rw[ah c,K0];rfl
def ou(num n:Int):List Field:=if n=0 then[]else[⟨num,0,⟨n.toNat⟩,[]⟩]
def sF(num:Int)(b:List UInt8):List Field:=if 0<((b.length:Nat):Int)then[⟨num,2,⟨0⟩,b⟩]else[]
def px(c:b6):List Field:=(((((([]++ou 1 c.kind)++ou 2 c.a6)++ou 3 c.seq)++ou 4 c.set)++ou 5 c.id)++ou 6 c.n)++sF 7 (bK c.c6)
def bI(c:b6)(v:Int):List Field:=if 3<=v then px c++sF 8 c.text.b else px c
def il(num n:Int):(ou num n).length<=1:=by unfold ou;split<;>simp
def FT(num:Int)(b:List UInt8):(sF num b).length<=1:=by unfold sF;split<;>simp
variable{xs:List Field}
def CH(h:¬n=0):xs++[⟨num,0,⟨n.toNat⟩,[]⟩]=xs++ou num n:=by rw[ou,X h]
def Bg(h:n=0):xs=xs++ou num n:=by rw[ou,O h,A1]
variable{b:List UInt8}
def Bx(h:0<((b.length:Nat):Int)):xs++[⟨num,2,⟨0⟩,b⟩]=xs++sF num b:=by rw[sF,O h]
def BH(h:¬0<((b.length:Nat):Int)):xs=xs++sF num b:=by rw[sF,X h,A1]
def wv(c:b6)(v:Int):(bI c v).length<=8:=by
 have d:=il 1 c.kind;have g:=il 2 c.a6;have h:=il 3 c.seq;have i:=il 4 c.set;have j:=il 5 c.id;have o:=il 6 c.n;have p:=FT 7 (bK c.c6);have q:=FT 8 c.text.b;unfold bI px;split<;>simp<;>omega
def dy(c:b6)(d:List Field)(v:Int):Int:=if !(aM v 1 3)then 1 else if(fh c v=false/\¬aO c v=0)then aO c v else if d.any (λf=>decide (f.num<=bE v))then 6 else 0
def dG(c:b6)(d:List Field)(v:Int):Int:=if dy c d v=0 then ck (bI c v++d)else dy c d v
def eO(c:b6)(d:List Field)(v:Int):List UInt8:=if dy c d v=0 then jt (bI c v++d)else[]
def pb{k:Int}(h:¬br k=0):1<=k/\k<=12:=Decidable.byContradiction λc=>h (Ir c)
def Rr{c:b6}{v:Int}(h:fh c v=true):0<=c.kind/\0<=c.a6/\0<=c.seq/\0<=c.set/\0<=c.id/\0<=c.n:=by
 unfold fh sI aM at h;simp at h;omega
def zY{b:Bool}(h:lq n m b=true):0<=n:=by
 unfold lq at h;cases b<;>simp at h<;>omega
def yF{k:Int}(h:1<=k/\k<=12):0<=(kI k).1:=by
 have:k=1\/k=2\/k=3\/k=4\/k=5\/k=6\/k=7\/k=8\/k=9\/k=10\/k=11\/k=12:=by omega
 rcases this with rfl|rfl|rfl|rfl|rfl|rfl|rfl|rfl|rfl|rfl|rfl|rfl<;>decide
def nz{c:b6}{v:Int}(h:aO c v=0):(1<=v/\v<=3)/\¬br c.kind=0/\br c.kind<=v/\fX c=true:=by
 unfold aO at h;split at h
 .cases h
 rename_i d;rw[H2,not_or]at d;simp at d;split at h
 .cases h
 split at h
 .cases h
 rename_i i g;exact⟨wT d.1,d.2,N,by simpa using g⟩
def Og{c:b6}{v:Int}(h:aO c v=0):0<=c.kind/\0<=c.a6/\0<=c.seq/\0<=c.set/\0<=c.id/\0<=c.n:=by
 obtain⟨_,g,_,d⟩:=nz h;have i:=pb g;have r:=yF i;unfold fX at d;simp at d;obtain⟨⟨⟨⟨⟨⟨⟨s,u⟩,_⟩,_⟩,j⟩,o⟩,p⟩,q⟩:=d;exact⟨N,zY j,zY o,zY p,zY q,N⟩
variable{rest:List Field}
def apK{c:b6}{v:Int}(h:(!(aM v 1 3))=true):dy c rest v=1:=by rw[dy,O h]
def ao5{c:b6}{v:Int}(h:(!(aM v 1 3))=false)(d:fh c v=false)(g:¬aO c v=0):dy c rest v=aO c v:=by rw[dy,h,X am,O ⟨d,g⟩]
def apt{c:b6}{v:Int}{x:Field}(h:(!(aM v 1 3))=false)(h1:fh c v=true\/aO c v=0)(g:rest[k]? =some x)(i:x.num<=bE v):dy c rest v=6:=by
 have:(rest.any λf=>decide (f.num<=bE v))=true:=List.any_eq_true.2 ⟨x,C5 g,F5 i⟩;rw[dy,h,X am,X (λd=>by rcases h1 with h1|h1;rw[h1]at d;cases d.1;exact d.2 h1),O this]
def aoc{c:b6}{v:Int}(h:(!(aM v 1 3))=false)(h1:fh c v=true\/aO c v=0)(d:∀j y,j<k->rest[j]? =some y->¬y.num<=bE v)(p:rest.length<=k):dy c rest v=0:=by
 have:(rest.any λf=>decide (f.num<=bE v))=false:=by
  rw[List.any_eq_false];intro y i;obtain⟨j,o,rfl⟩:=Y0 i;have:=d j _ N (r5 o);simpa using this
 rw[dy,h,X am,X (λg=>by rcases h1 with h1|h1;rw[h1]at g;cases g.1;exact g.2 h1),this,X am]
def sC{c:b6}{v:Int}(h:dy c rest v=e)(d:¬e=0):e=dG c rest v:=by rw[dG,h,X d]
def sq{c:b6}{v:Int}(h:dy c rest v=e)(d:¬e=0):[]=eO c rest v:=by rw[eO,h,X d]
def aa8{c:b6}{v:Int}(h:dy c rest v=0):ck (bI c v++rest)=dG c rest v:=by rw[dG,O h]
def aba{c:b6}{v:Int}(h:dy c rest v=0):jt (bI c v++rest)=eO c rest v:=by rw[eO,O h]
theorem Lk{z:Field}(h:∀j y,j<k->rest[j]? =some y->¬y.num<=t)(g:rest[k]? =some z)(i:¬z.num<=t):∀j y,j<k+1->rest[j]? =some y->¬y.num<=t:=by
 intro j y o c;by_cases d:j=k
 .grind
 exact h j y N c
def zy(n:Nat):bm n=((range (bD n)).map (oo n)).set (bD n-1) (oo n (bD n-1)&&&127):=by unfold bm gD;simp
def Qr:∀m:Fin 128,(ofNat m.val|||128)&&&127=ofNat m.val:=by decide
def ab7:∀m:Fin 256,(ofNat m.val|||128).toNat=m.val%128+128:=by decide+kernel
variable{n:Nat}
def lT(h:n<128):bm n=[ofNat n]:=by
 rw[zy,lM h];have:=Qr ⟨n,h⟩;simp[oo]at*;rw[this]
def aax(n:Nat):(oo n 0).toNat=n%128+128:=by
 have e:ofNat n=ofNat (n%256):=UInt8.toNat_inj.1 aa;have:=ab7 ⟨n%256,F6 _ am⟩;simp only[oo,Nat.pow_zero,Nat.div_one];rw[e,this];simp only;omega
def uA(h:¬n<128):bm n=oo n 0::bm (n/128):=by
 have e:∀i,oo n (i+1)=oo (n/128) i:=λi=>by unfold oo;rw[Nat.pow_succ,T6,<-Nat.div_div_eq_div_mul]
 have d:=kN (n/128);obtain⟨s,c⟩:∃s,bD (n/128)=s+1:=⟨bD (n/128)-1,N⟩;rw[zy,zy (n/128),oD h,c];simp;rw[List.range_succ_eq_map,O5,map_map,List.set_cons_succ,e s,show oo n∘Nat.succ=oo (n/128)from funext e]
theorem rL:∀{l:List Field} {p:Option Field},dT p l=0->∀x∈l,du x=true
 |[],_,_,x,hx=>by cases hx
 |f::r,p,h,x,hx=>by
  unfold dT at h;split at h
  .rename_i c;rcases v7.1 hx with rfl|hx
   .unfold stepT at c;split at c
    .cases c
    rename_i d;simpa using d
   exact rL h x hx
  rename_i c;exact absurd h c
def cd:Nat->Nat->List UInt8->Nat×Nat×Int
 |k,_,[]=>if 10<=k then(0,0,3)else(0,0,2)
 |k,n,x::r=>if 10<=k then(0,0,3)else if(0<k/\x.toNat=0)\/(k=9/\1<x.toNat)then(0,0,3)else if x.toNat<128 then(n+(x&&&127).toNat*2^(7*k),k+1,0)else cd (k+1) (n+(x&&&127).toNat*2^(7*k)) r
termination_by _ _ l=>l.length
def c7(b:List UInt8):Nat×Nat×Int:=cd 0 0 b
theorem mL(x:UInt8):(x&&&127).toNat=x.toNat%128:=by rw[UInt8.toNat_and];exact Nat.and_two_pow_sub_one_eq_mod x.toNat 7
variable{x:UInt8}
theorem EM(d:k<=9)(h:k=9->x.toNat<=1):(x&&&127).toNat*2^(7*k)<18446744073709551616:=by
 rw[mL];by_cases g:k=9
 .grind
 have c:2^(7*k)<=2^56:=Nat.pow_le_pow_right am N;have:x.toNat%128*2^(7*k)<=127*2^56:=Nat.mul_le_mul N c;exact L5 this am
def ER{m:Nat}(h:n<2^(7*k)):n|||m*2^(7*k)=n+m*2^(7*k):=by
 have:=Nat.two_pow_add_eq_or_of_lt h m;rw[Nat.or_comm,T6 m,<-this,Nat.add_comm]
def yK(h:n<2^(7*k)):n+(x&&&127).toNat*2^(7*k)<2^(7*(k+1)):=by
 rw[mL];have e:2^(7*(k+1))=128*2^(7*k):=by rw[show 7*(k+1)=7*k+7 by omega,Nat.pow_add,T6]
 have:x.toNat%128*2^(7*k)<=127*2^(7*k):=J3 _ N;rw[e];omega
def OH(d:k<10)(c:b.length<=k):cd k n (b.drop k)=(0,0,2):=by
 rw[M1 c,cd,X N]
def abh(c:10<=k):cd k n (b.drop k)=(0,0,3):=by
 cases h:b.drop k with
 |nil=>rw[cd,O c]
 |cons x r=>rw[cd,O c]
def Qo(h:k<10)(d:b[k]? =some x):cd k n (b.drop k)=if(0<k/\x.toNat=0)\/(k=9/\1<x.toNat)then(0,0,3)else if x.toNat<128 then(n+(x&&&127).toNat*2^(7*k),k+1,0)else cd (k+1) (n+(x&&&127).toNat*2^(7*k)) (b.drop (k+1)):=by
 obtain⟨c,g⟩:=sy.1 d;rw[K6 c,g,cd,X N]
def Ia(h:c7 b=cd k n (b.drop k))(c:k<10)(d:b[k]? =some x)(g:¬(0<k/\x.toNat=0))(i:¬(k=9/\1<x.toNat))(j:¬x.toNat<128):c7 b=cd (k+1) (n+(x&&&127).toNat*2^(7*k)) (b.drop (k+1)):=by
 rw[h,Qo c d,X (λh=>h.elim g i),X j]
theorem lr:∀{l:List UInt8} {k n:Nat},k<=10->(cd k n l).2.1<=11/\(cd k n l).2.1<=k+l.length
 |[],k,n,h=>by rw[cd];split<;>simp
 |x::r,k,n,h=>by
  rw[cd];split
  .simp
  split
  .simp
  split
  .simp;omega
  have:=lr (l:=r) (k:=k+1) (n:=n+(x&&&127).toNat*2^(7*k)) N;simp only[x7];omega
theorem aac:∀{l:List UInt8} {k n:Nat},k<=10->n<2^(7*k)->n<18446744073709551616->(cd k n l).1<18446744073709551616
 |[],k,n,_,_,_=>by rw[cd];split<;>simp
 |x::r,k,n,h,g,c=>by
  rw[cd];split
  .simp
  split
  .simp
  rename_i q i;have j:=EM (k:=k) (x:=x) N (λe=>by by_cases o:1<x.toNat;exact absurd (.inr ⟨e,o⟩) i;omega);have p:=ER (k:=k) (m:=(x&&&127).toNat) g;have d:n|||(x&&&127).toNat*2^(7*k)<2^64:=O3 c j;rw[p]at d;split
  .exact d
  exact aac N (yK g) d
theorem Ao(h:c7 b=cd k n (b.drop k))(c:k<10)(d:b[k]? =some x)(g:(0<k/\x.toNat=0)\/(k=9/\1<x.toNat)):c7 b=(0,0,3):=by rw[h,Qo c d,O g]
theorem Hq(h:c7 b=cd k n (b.drop k))(c:k<10)(d:b[k]? =some x)(g:¬(0<k/\x.toNat=0))(i:¬(k=9/\1<x.toNat))(j:x.toNat<128):c7 b=(n+(x&&&127).toNat*2^(7*k),k+1,0):=by
 rw[h,Qo c d,X (λh=>h.elim g i),O j]
end Go.Proofs.YtoecbhljidgajaaGreat
