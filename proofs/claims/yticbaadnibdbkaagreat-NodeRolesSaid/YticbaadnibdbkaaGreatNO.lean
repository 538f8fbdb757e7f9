/- The law: for every input it returns true, and each argument reads behind the call as it read before; and what leads there. Conditions: each lemma's own. -/
import Derived.ProofKit
import Derived.SizedLaws
import Derived.Test.YticbaadnibdbkaaGreatChecked
import Derived.Test.YticbaadnibdbkaaGreatRows
import Derived.Test.YticbaadnibdbkaaGreatNOM7
set_option linter.unusedVariables false
set_option linter.unusedSimpArgs false
set_option maxHeartbeats 2000000
set_option linter.defProp false
noncomputable section
namespace Go.Proofs.YticbaadnibdbkaaGreat
open Go.RowKit
variable {l:List Entry} {k:Nat}
def ac4 {y:Entry} (a:l[k]? = some y):(l.take k).map (fun z:Entry=>(⟨z.term,z.b.take 250⟩:Entry))++[Entry.mk y.term (y.b.take 250)]=(l.take (k+1)).map (fun z:Entry=>(⟨z.term,z.b.take 250⟩:Entry)):=by
 rw [ai a,List.map_append]; rfl
def aiH {y:Entry} (a:l[k]? = some y) (h:(y.b.length:Int)<=250):(l.take k).map (fun z:Entry=>(⟨z.term,z.b.take 250⟩:Entry))++[y]=(l.take (k+1)).map (fun z:Entry=>(⟨z.term,z.b.take 250⟩:Entry)):=by
 rw [<- ac4 a,List.take_of_length_le (l:=y.b) aE]
def ajk (a:k<=6) (h:(l.length:Int)<=k\/6<=(k:Int)):(l.take k).map (fun z:Entry=>(⟨z.term,z.b.take 250⟩:Entry))=(l.take 6).map (fun z:Entry=>(⟨z.term,z.b.take 250⟩:Entry)):=by
 by_cases e:k=6
 ·rw [e]
 rw [List.take_of_length_le aE,List.take_of_length_le aE]
def acH:NInv (im 0 3) []:=FT ⟨am,am,am,am⟩
abbrev sw1:NdR:=aZ (im 0 3) 1
abbrev sw2:=aH sw1.n
def aho:NdOK sw1.n:=let ⟨_,h⟩:=Ht (b:=1) acH; h.inv.ok
def ahK:(decide (sw1.e=0) && decide (sw2.e=0) && decide ((sw2.l.length:Int)=2) && decide ((sw2.l.getD 0 (au (.nm .letter))).kind=1) && decide ((sw2.l.getD 1 (au (.nm .letter))).to=2) && decide ((sw2.l.getD 0 (au (.nm .letter))).term=1) && decide ((bA sw2.n).role=1))=true:=bN
def Ju (x:Letter):List (Nat × LI):=[(3,{ σ:=Nat,F:=fun k=>([(1,one (.ptr 0 0)),(2,one (.ptr 1 0)),(3,one (.own 2)),(4,one (.int k))],[.box 40 (cellsOf (.nm .letter) (x)),.box 40 (cellsOf (.nm .letter) (cM)),.row 52 (.nm .entry) (((x.l.take k).map (fun z:Entry=>(⟨z.term,z.b.take 250⟩:Entry))))]),J:=fun k=>k<=x.l.length/\k<=6,μ:=fun k=>6 - k })]
def ud:Kn:=aO (ae (kT (.nm .letter)) ao) aw fun (x,_) _=>⟨[],[.agg (cellsOf (.nm .letter) (uI x))],none,false⟩
theorem CY:CK 23 ud:=ah fun (x,_) _ _=>by
 refine av lB (Ju x) Tryz.func23 (?_:(fun (g:Nat)=>(fun (h:Nat)=>(fun (e:Int)=>aT x (∃ (j:Nat),(e=(↑j:Int)/\iw x x (e=cM.kind/\e=cM.frm/\e=cM.to/\e=cM.term/\e=cM.a/\e=cM.b/\e=cM.c/\e=cM.bin/\false=cM.ok/\cM.l=[]/\List.map (fun (z:Entry)=>Entry.mk z.term (List.take h z.b)) (List.take j x.l)=[]))/\(j<=x.l.length/\j<=g)/\∀ (s:Nat),(fun (m:Int)=>(fun (i:List (den (Sh.nm NT.entry)))=>s<=x.l.length/\s<=g->((↑s:Int)<(↑x.l.length:Int)/\(↑s:Int)<6->e<=(↑s:Int)/\(↑s:Int)<(↑x.l.length:Int)/\∀ (d:Entry),x.l[s]? = some d->I64 d.term->d.b.length*1<=140737488355328->(250<(↑d.b.length:Int)->e<=250/\250<=(↑d.b.length:Int)/\(i.length+[Entry.mk d.term (List.take h d.b)].length)*32<=140737488355328/\I64 m/\∃ (f:Nat),(m=(↑f:Int)/\iw x x (iw cM cM (i++[Entry.mk d.term (List.take h d.b)]=List.map (fun (z:Entry)=>Entry.mk z.term (List.take h z.b)) (List.take f x.l))))/\(f <= x.l.length/\f <= g)/\g - f < g - s)/\((↑d.b.length:Int)<=250->(i.length+[d].length)*32<=140737488355328/\I64 m/\∃ (f:Nat),(m=(↑f:Int)/\iw x x (iw cM cM (i++[d]=List.map (fun (z:Entry)=>Entry.mk z.term (List.take h z.b)) (List.take f x.l))))/\(f <= x.l.length/\f <= g)/\g - f < g - s))/\((↑x.l.length:Int)<=(↑s:Int)\/6<=(↑s:Int)->B_ (Letter.mk x.kind x.frm x.to x.term x.a x.b x.c x.bin x.ok i) (uI x))) (List.map (fun (z:Entry)=>Entry.mk z.term (List.take h z.b)) (List.take s x.l))) ((↑s:Int)+1))) 0) 250) 6);iterate 3 ((all_goals (repeat' with_reducible first|apply aV|refine bl ?_|intro)); (all_goals try (first | exact bY | exact rfl | exact (ac4 ab) | exact (aiH ab ab) | exact (ajk aE ab) | (simp only [List.length_map,List.length_take,List.length_cons,List.length_nil]; omega))); all_goals try first | refine ⟨‹Nat› + 1,?_⟩ | refine ⟨0,?_⟩)
def FV:Kn:=aO (ae (kT (.nm .command)) ao) aw fun (c,_) _=>⟨[],[.agg (cellsOf (.nm .command) (mm c))],none,false⟩
def SI:CK 32 FV:=ah fun (c,_) _ _=>by
 refine av lB [] Tryz.func32 (?_:(fun e=>(fun a=>(fun d=>bF c (((12:Int)<e->(0:Int)<=(12:Int)/\(12:Int)<=e/\(a<d->(0:Int)<=a/\a<=d/\aS (Command.mk c.kind c.client c.seq c.set c.id c.n (List.take (12:Nat) c.chunks) (Str.mk (List.take (40:Nat) c.text.b))) (mm c))/\(d<=a->aS (Command.mk c.kind c.client c.seq c.set c.id c.n (List.take (12:Nat) c.chunks) c.text) (mm c)))/\(e<=(12:Int)->(a<d->(0:Int)<=a/\a<=d/\aS (Command.mk c.kind c.client c.seq c.set c.id c.n c.chunks (Str.mk (List.take (40:Nat) c.text.b))) (mm c))/\(d<=a->aS c (mm c))))) (↑c.text.b.length:Int)) (40:Int)) (↑c.chunks.length:Int));(repeat' with_reducible first|apply aV|refine bl ?_|intro)
 all_goals (first | exact bY | exact rfl | (dsimp only [mm]; first | exact (List.take_of_length_le aE).symm | exact OJ aE))
def HK:Kn:=aO (ae (kC (cL (.nm .nop))) ao) aw fun (l,_) _=>⟨[],[.c (.fz (.nm .nop) ((l.take 40)))],none,false⟩
def V_:CK 18 HK:=ah fun (l,_) _ _=>by
 refine av lB [] Tryz.func18 (?_:l.length*(200:Nat)<=(140737488355328:Nat)->((40:Int)<(↑l.length:Int)->(0:Int)<=(40:Int)/\(40:Int)<=(↑l.length:Int)/\List.take (40:Nat) l=List.take (40:Nat) l)/\((↑l.length:Int)<=(40:Int)->l=List.take (40:Nat) l));(repeat' with_reducible first|apply aV|refine bl ?_|intro)
 all_goals (first | exact bY | exact rfl | exact (List.take_of_length_le aE).symm)
def u_:Kn:=aO ao aw fun _ _=>⟨[],[.c (.bool (.atom ((true))))],none,false⟩
theorem Jy:CK 11 u_:=ah fun _ _ _=>by
 refine av lB [] Tryz.func11 (?_:(fun t=>(fun p=>(fun w=>(fun m=>(fun y=>(fun z=>(fun g=>(fun u=>(fun x=>(fun o=>(fun j=>(fun q=>(fun h=>(fun i=>(fun f=>(fun d=>(fun v=>(fun r=>(fun s=>(t<=t/\t<=5/\g<=g/\g<t)/\(I64 g->(false=true\/¬g=g->false=true)/\(false=false/\g=g->NdOK (im g t)/\(I64 u.e->NdOK u.n/\(o.l.length*96<=p->I64 o.e->(q->g<=g/\g<j)/\((q->v)->(r->g<=m/\m<j)/\((r->I64 f.kind/\I64 f.frm/\I64 f.to/\I64 f.term/\I64 f.a/\I64 f.b/\I64 f.c/\I64 f.bin/\f.l.length*32<=p)->(s->g<=g/\g<j)/\((s->v)->(s/\d.term=m->I64 h.role/\I64 h.binary/\I64 h.floor/\I64 h.term/\I64 h.vote/\I64 h.commit/\I64 h.applied/\h.log.length*32<=p/\I64 i.version/\I64 i.next/\I64 i.keep/\I64 i.quota/\i.sess.length*32<=p/\i.opens.length*16<=p/\i.snaps.length*64<=p)->(decide (u.e=g) && decide (o.e=g) && decide (j=w) && decide (d.kind=m) && decide (f.to=w) && decide (d.term=m) && decide (h.role=m))=true)))))))) (r/\f.to=w)) (q/\d.kind=m)) (I64 d.kind/\I64 d.frm/\I64 d.to/\I64 d.term/\I64 d.a/\I64 d.b/\I64 d.c/\I64 d.bin/\d.l.length*32<=p)) (o.l.getD z x)) (o.l.getD y x)) h.state) (bA o.n)) ((u.e=g/\o.e=g)/\j=w)) (↑o.l.length:Int)) (aH u.n)) (au (Sh.nm NT.letter))) (aZ (im g t) m)) (0:Int)) (0:Nat)) (1:Nat)) (1:Int)) (2:Int)) (140737488355328:Nat)) (3:Int));(repeat' with_reducible first|apply aV|refine bl ?_|intro)
 all_goals (first | exact bY | exact rfl | exact acH.ok | exact aho | exact ahK | (simp_all; done))
def Xv:bP:=(aQ 11 u_ (aQ 18 HK (aQ 32 FV (aQ 23 ud Wz))))
def yN:aA Tryz.prog (ak tyT) Xv:=(ag Jy (ag V_ (ag SI (ag CY lB))))
section
variable {n:Nd} {o:NOp} {k:UInt8}
def o7:(k &&& UInt8.ofNat 7).toNat=k.toNat % 8:=by
 rw [UInt8.toNat_and]; exact Nat.and_two_pow_sub_one_eq_mod k.toNat 3
variable {i:Nat}
def DK (h:((k &&& UInt8.ofNat 7).toNat:Int)=((UInt8.ofNat i).toNat:Int)) (a:i<8):k.toNat % 8=i:=by
 rw [o7,show (UInt8.ofNat i).toNat=i by rw [UInt8.toNat_ofNat']; omega] at h; omega
theorem Ej (h:¬((k &&& UInt8.ofNat 7).toNat:Int)=((UInt8.ofNat i).toNat:Int)) (a:i<8):¬k.toNat % 8=i:=by
 rw [o7,show (UInt8.ofNat i).toNat=i by rw [UInt8.toNat_ofNat']; omega] at h; omega
def ahc (h:((o.kind &&& UInt8.ofNat 7).toNat:Int)=((UInt8.ofNat 0).toNat:Int)):cP n o=((aZ n o.n).n,⟨[],0,0,(aZ n o.n).e⟩):=by
 have e:=DK h am; simp [cP,e]
def aiY (h:((o.kind &&& UInt8.ofNat 7).toNat:Int)=((UInt8.ofNat 1).toNat:Int)):cP n o=((aH n).n,⟨(aH n).l,0,0,(aH n).e⟩):=by
 have e:=DK h am; simp [cP,e]
def aij (h:((o.kind &&& UInt8.ofNat 7).toNat:Int)=((UInt8.ofNat 2).toNat:Int)):cP n o=(n,⟨(aU n).1,0,0,(aU n).2⟩):=by
 have e:=DK h am; simp [cP,e]
def ai_ (h:((o.kind &&& UInt8.ofNat 7).toNat:Int)=((UInt8.ofNat 3).toNat:Int)):cP n o=((br n (uI o.x)).n,⟨(br n (uI o.x)).l,0,0,(br n (uI o.x)).e⟩):=by
 have e:=DK h am; simp [cP,e]
def aiL (h:((o.kind &&& UInt8.ofNat 7).toNat:Int)=((UInt8.ofNat 4).toNat:Int)):cP n o=((cR n (mm o.c)).n,⟨[],(cR n (mm o.c)).a,(cR n (mm o.c)).b,(cR n (mm o.c)).e⟩):=by
 have e:=DK h am; simp [cP,e]
def aiI (h:((o.kind &&& UInt8.ofNat 7).toNat:Int)=((UInt8.ofNat 5).toNat:Int)):cP n o=({ n with d:=⟨n.d.b,n.d.synced,n.d.down,true,o.n⟩ },⟨[],0,0,0⟩):=by
 have e:=DK h am; simp [cP,e]
def ahf (h:((o.kind &&& UInt8.ofNat 7).toNat:Int)=((UInt8.ofNat 6).toNat:Int)):cP n o=({ n with d:=n.d.cH o.n },⟨[],0,0,0⟩):=by
 have e:=DK h am; simp [cP,e]
def ai1 (a:¬((o.kind &&& UInt8.ofNat 7).toNat:Int)=((UInt8.ofNat 0).toNat:Int)) (b:¬((o.kind &&& UInt8.ofNat 7).toNat:Int)=((UInt8.ofNat 1).toNat:Int)) (c:¬((o.kind &&& UInt8.ofNat 7).toNat:Int)=((UInt8.ofNat 2).toNat:Int)) (d:¬((o.kind &&& UInt8.ofNat 7).toNat:Int)=((UInt8.ofNat 3).toNat:Int)) (e:¬((o.kind &&& UInt8.ofNat 7).toNat:Int)=((UInt8.ofNat 4).toNat:Int)) (f:¬((o.kind &&& UInt8.ofNat 7).toNat:Int)=((UInt8.ofNat 5).toNat:Int)) (g:¬((o.kind &&& UInt8.ofNat 7).toNat:Int)=((UInt8.ofNat 6).toNat:Int)):cP n o=(n,⟨[],0,0,0⟩):=by
 simp [cP,Ej a am,Ej b am,Ej c am,Ej d am,Ej e am,Ej f am,Ej g am]
end
def zj:Kn:=aO (ae (kC (ba 0 0)) (ae (kT (.nm .nop)) ao)) uo fun (_,o,_) n=>⟨[NdOK n],[.agg ([.fz (.nm .letter) (((cP n o).2.l)),.int (((cP n o).2.a)),.int (((cP n o).2.b)),.int (((cP n o).2.e))])],some ((kI ((cP n o).1))),false⟩
def PQ:CK 19 zj:=ah fun (_,o,_) n v=>by
 have u:=cg v;refine bz yN [] Tryz.func19 (?_:(fun r=>(fun s=>(fun i=>(fun j=>(fun m=>(fun f=>(fun t=>(fun p=>(fun q=>(fun g=>XL o ((g=(↑(UInt8.ofNat 0).toNat:Int)->NdOK n/\(I64 (aZ n o.n).e->t/\q/\p/\(aZ n o.n).e=f.e/\bL (aZ n o.n).n i))/\(¬g=(↑(UInt8.ofNat 0).toNat:Int)->(g=(↑(UInt8.ofNat 1).toNat:Int)->NdOK n/\(r.l.length*96<=140737488355328->I64 r.e->r.l=f.l/\q/\p/\r.e=f.e/\bL r.n i))/\(¬g=(↑(UInt8.ofNat 1).toNat:Int)->(g=(↑(UInt8.ofNat 2).toNat:Int)->n.c.many<=5/\(n.c.role=m\/(↑n.nx.length:Int)=n.c.many)/\((aU n).fst.length*96<=140737488355328->I64 (aU n).snd->(aU n).fst=f.l/\q/\p/\(aU n).snd=f.e/\bL n i))/\(¬g=(↑(UInt8.ofNat 2).toNat:Int)->(g=(↑(UInt8.ofNat 3).toNat:Int)->aT (uI o.x) (NdOK n/\(s.l.length*96<=140737488355328->I64 s.e->s.l=f.l/\q/\p/\s.e=f.e/\bL s.n i)))/\(¬g=(↑(UInt8.ofNat 3).toNat:Int)->(g=(↑(UInt8.ofNat 4).toNat:Int)->bF (mm o.c) (NdOK n/\(I64 j.a->I64 j.b->I64 j.e->t/\j.a=f.a/\j.b=f.b/\j.e=f.e/\bL j.n i)))/\(¬g=(↑(UInt8.ofNat 4).toNat:Int)->(g=(↑(UInt8.ofNat 5).toNat:Int)->t/\q/\p/\m=f.e/\bL (Nd.mk n.c (Dsk.mk n.d.b n.d.synced n.d.down true o.n) n.rp n.vs n.bn n.nx n.mt) i)/\(¬g=(↑(UInt8.ofNat 5).toNat:Int)->(g=(↑(UInt8.ofNat 6).toNat:Int)->(m<=n.d.synced/\n.d.synced<=(↑n.d.b.length:Int)/\n.d.b.length<=65536)/\t/\q/\p/\m=f.e/\bL (Nd.mk n.c (n.d.cH o.n) n.rp n.vs n.bn n.nx n.mt) i)/\(¬g=(↑(UInt8.ofNat 6).toNat:Int)->t/\q/\p/\m=f.e/\bL n i))))))))) (↑(o.kind &&& UInt8.ofNat 7).toNat:Int)) (m=f.a)) (m=f.b)) (f.l=[])) (cP n o).snd) (0:Int)) (cR n (mm o.c))) (cP n o).fst) (br n (uI o.x))) (aH n));obtain ⟨w,y,z⟩:=id u.d;(repeat' with_reducible first|apply aV|refine bl ?_|intro)
 all_goals (first | exact bY | exact u | exact u.many.2 | exact (u.len.imp_right fun h=>h.2.2.1) | (rw [ahc (n:=n) (o:=o) ab] <;> rfl) | (rw [aiY (n:=n) (o:=o) ab] <;> rfl) | (rw [aij (n:=n) (o:=o) ab] <;> rfl) | (rw [ai_ (n:=n) (o:=o) ab] <;> rfl) | (rw [aiL (n:=n) (o:=o) ab] <;> rfl) | (rw [aiI (n:=n) (o:=o) ab] <;> rfl) | (rw [ahf (n:=n) (o:=o) ab] <;> rfl) | (rw [ai1 (n:=n) (o:=o) ab ab ab ab ab ab ab] <;> rfl))
def Yg:bP:=(aQ 19 zj Xv)
def oJ:aA Tryz.prog (ak tyT) Yg:=(ag PQ yN)
section
variable {a b:List Entry} {k:Nat} {d:Entry}
end
section
variable {a b:List Letter} {k:Nat} {d:Letter}
end
structure Inv (n:Nd):Prop where
 p:∃ L,NInv n L
section
variable {n:Nd} {o:NOp} {x:Letter}
def ago (h:(true=false\/false=true)\/¬(0:Int)=0):false=true:=by simp at h
end
def wx:Kn:=aO (ae (kC (cL (.nm .reply))) ao) aw fun (l,_) _=>⟨[],[.c (.own 0)],some ([.row 78 (.nm .reply) ((l))]),true⟩
def JN:CK 73 wx:=ah fun (l,_) _ _=>by
 refine cT oJ [] Tryz.func73 (?_:(fun a=>a->∀ (b:Bool),(b=true->l=[])->(b=true->l=[])/\(b=false->a/\l=l)) (l.length*16<=140737488355328));exact fun h b c=>⟨c,fun _=>⟨h,rfl⟩⟩
def vM:Kn:=aO (ae (kC (cL .bool)) ao) aw fun (l,_) _=>⟨[],[.c (.own 0)],some ([.row 4 .bool ((l))]),true⟩
def JY:CK 74 vM:=ah fun (l,_) _ _=>by
 refine cT oJ [] Tryz.func74 (?_:(fun a=>a->∀ (b:Bool),(b=true->l=[])->(b=true->l=[])/\(b=false->a/\l=l)) (l.length*1<=140737488355328));exact fun h b c=>⟨c,fun _=>⟨h,rfl⟩⟩
def wM:Kn:=aO (ae (kC (cL .u8)) ao) aw fun (l,_) _=>⟨[],[.c (.own 0)],some ([.row 5 .u8 ((l))]),true⟩
def HR:CK 104 wM:=ah fun (l,_) _ _=>by
 refine cT oJ [] Tryz.func104 (?_:(fun a=>a->∀ (b:Bool),(b=true->l=[])->(b=true->l=[])/\(b=false->a/\l=l)) (l.length*1<=140737488355328));exact fun h b c=>⟨c,fun _=>⟨h,rfl⟩⟩
def WR:bP:=(aQ 104 wM (aQ 74 vM (aQ 73 wx Yg)))
def Au:aA Tryz.prog (ak tyT) WR:=(ag HR (ag JY (ag JN oJ)))
def wm:Kn:=aO (ae (kC (ba 0 0)) ao) (aC (dC 147 (ax (eI 1) (ax cI (ax cB (ax cB (ax cI dA)))))) (aC (eG 5 .u8) aw)) fun _ ((_,a,b,d,e,_),f,_)=>⟨[(Dsk.mk f a b d e).OK],[.c (.ptr 2 0)],some ([.box 147 ([.own 1,.int ((a)),.bool (.atom ((b))),.bool (.atom ((d))),.int ((e))]),.row 5 .u8 ((f)),.box 147 ([.own 3,.int ((a)),.bool (.atom ((b))),.bool (.atom ((d))),.int ((e))]),.row 5 .u8 ((f))]),true⟩
theorem JU:CK 72 wm:=ah fun _ ((_,a,b,c,d,_),e,_) f=>by
 have g:=cg f;refine cT Au [] Tryz.func72 (?_:a=a/\b=b/\c=c/\d=d/\e=e/\a=a/\b=b/\c=c/\d=d/\e=e);obtain ⟨h,i,j⟩:=g;dsimp only at h i j;(repeat' with_reducible first|apply aV|refine bl ?_|intro) <;> first | (first | with_reducible rfl | with_reducible assumption | omega | (refine aD ?_ ?_ <;> omega)) | skip
def XE:bP:=(aQ 72 wm WR)
def zo:aA Tryz.prog (ak tyT) XE:=(ag JU Au)
def Bn:Kn:=aO (ae (kC (ba 0 0)) ao) uo fun _ n=>⟨[NdOK n],[.c (.ptr 8 0)],some ((kI (n)++(ndO 8 ((n))))),true⟩
def Ol:CK 33 Bn:=ah fun _ n e=>by
 have a:=cg e;refine cT zo [] Tryz.func33 (?_:(0<=n.d.synced/\n.d.synced<=(↑n.d.b.length:Int)/\n.d.b.length<=65536)/\(n.c.st.log.length*32<=140737488355328->I64 n.c.s.version->I64 n.c.s.next->I64 n.c.s.keep->I64 n.c.s.quota->Bc n n (bL n n)));(repeat' with_reducible first|apply aV|refine bl ?_|intro)
 all_goals (first | exact bY | exact a.d.1 | exact a.d.2.1 | exact a.d.2.2)
def adX:bP:=(aQ 33 Bn XE)
def NY:aA Tryz.prog (ak tyT) adX:=(ag Ol zo)
section
variable {b:List UInt8}
abbrev l13 (b:List UInt8):Int:=256*((b.getD 0 (au .u8):UInt8).toNat:Int)+((b.getD 1 (au .u8):UInt8).toNat:Int)
abbrev x13 (b:List UInt8):List UInt8:=(b.drop 2).take ((l13 b+2).toNat - 2)
end
structure ZAv where
 l:List (List UInt8)
 a:Int
section
variable {b:List UInt8} {q:ZAv}
end
section
variable {r:Record}
def Hu:recOk r=true↔(r.kind=1/\1<=r.a/\r.a<=3/\r.b=0/\(r.x.length:Int)<=0)\/(r.kind=2/\0<=r.a/\r.a<=1048576/\0<=r.b/\r.b<=5/\(r.x.length:Int)<=0)\/(r.kind=3/\1<=r.a/\r.a<=64/\0<=r.b/\r.b<=1048576/\(r.x.length:Int)<=200)\/(r.kind=4/\1<=r.a/\r.a<=64/\r.b=0/\(r.x.length:Int)<=0):=by
 have e:r.x=[]↔(r.x.length:Int)<=0:=by rw [<- List.length_eq_zero_iff]; omega
 rw [bT,e];omega
end
def LeadI (n:Nd):Prop:=n.d.down=false->n.c.role=2->64<=n.c.st.log.length\/(n.c.st.log≠[]/\fT n.c.st.log=n.c.st.term)
section
variable {n m:Nd} {L l:List Record} {x:Letter} {o:NOp} {c:Command} {b k:Int}
def LeadI.role (h:n.c.role≠2):LeadI n:=fun _ e=>absurd e h
def LeadI.dn (h:n.d.down=true):LeadI n:=fun e=>by rw [h] at e; cases e
def LeadI.of (h:LeadI n) (a:m.d.down=false->n.d.down=false) (f:m.c.role=2->n.c.role=2) (g:m.c.st=n.c.st):LeadI m:=fun e r=>by rw [g]; exact h (a e) (f r)
def EI {d:Dsk} {s:Stable} (e:d.down=false) (p:d.b.length<=60000) (f:l.all recOk=true) (r:l.length<=6) (g:(stepsF s l).2=0):(saveF d s l).2.2=0\/(saveF d s l).1.down=true/\(saveF d s l).2.2=30:=by
 have t:=oa f;have h:d.iX (encL l)=0:=by
  unfold Dsk.iX; rw [if_neg (by rw [e]; decide),if_neg aE]
 have i:d.app (encL l)=⟨d.b++encL l,d.synced,d.down,d.doomed,d.keep⟩:=by
  unfold Dsk.app; rw [if_neg];rw [e]; rintro (q | q)
  ·cases q
  omega
 unfold saveF;rw [if_neg (by rw [f]; decide),if_neg (Classical.not_not.2 g)];split
 ·exact .inl rfl
 rw [if_neg (Classical.not_not.2 h)];split
 ·right;rename_i a;rw [i] at a ⊢;unfold Dsk.e_ at a ⊢; unfold Dsk.sync;dsimp only at a ⊢;rw [e] at a ⊢;cases j:d.doomed
  ·rw [j] at a; simp at a
  simp [Dsk.cH]
 exact .inl rfl
def wv {y:Entry} (h:NInv m L) (g:m.d.down=false) (f:LeadI m\/m.d.b.length<=60000/\m.c.st.log.length<64/\y.b=[]) (j:y.term=m.c.st.term) (s:1<=m.c.st.term):LeadI (m.save [⟨3,(m.c.st.log.length:Int)+1,y.term,y.b⟩]):=by
 by_cases a:m.aJ [⟨3,(m.c.st.log.length:Int)+1,y.term,y.b⟩]=0
 ·intro _ _;right;have e:(m.save [⟨3,(m.c.st.log.length:Int)+1,y.term,y.b⟩]).c.st={ m.c.st with log:=m.c.st.log++[y] }:=(nQ a).1.trans (CG (vJ a));rw [e];refine ⟨aa,?_⟩;dsimp only;rw [fT,List.length_append,ahp,Nat.add_sub_cancel,List.getD_eq_getElem?_getD,afS (Nat.le_refl _),Nat.sub_self];exact j
 rcases f with f | ⟨p,t,r⟩
 ·rcases EX h g a with q | q
  ·rw [q]; exact f
  exact .dn q
 have u:=h.ok.term;have i:recOk ⟨3,(m.c.st.log.length:Int)+1,y.term,y.b⟩=true:=Hu.2 (.inr (.inr (.inl ⟨rfl,by dsimp only; omega,by dsimp only; omega,by dsimp only; omega,by dsimp only; omega,by show ((y.b.length:Nat):Int)<=200; rw [r]; decide⟩)));have e:(stepsF m.c.st [⟨3,(m.c.st.log.length:Int)+1,y.term,y.b⟩]).2=0:=by
  have e:aN m.c.st ⟨3,(m.c.st.log.length:Int)+1,y.term,y.b⟩=({ m.c.st with log:=m.c.st.log++[⟨y.term,y.b⟩] },0):=kE i (by rw [fh,if_neg (show ¬(3:Int)=1 by decide),if_neg (show ¬(3:Int)=2 by decide),if_pos rfl,dx,if_neg (by dsimp only; omega)]);rw [hP (by rw [e]),e]
 rcases EI g p (by rw [List.all_cons,i]; rfl) aa e with q | ⟨q,_⟩
 ·exact absurd q a
 exact .dn q
def H_ (h:LeadI n):LeadI (aH n).n:=by
 unfold aH;split
 ·exact h
 split
 ·exact h
 rename_i a;split
 ·exact h
 split
 ·exact .role a
 exact .role (show (1:Int)≠2 by decide)
def GJ (h:NInv m L) (j:m.d.down=false) (a:ForMe m x) (p:m.c.role≠0->x.term<=m.c.st.term) (f:LeadI m):LeadI (ct m x).n:=by
 by_cases g:m.c.role=2;case neg=>
  unfold ct;split
  ·exact f
  split
  ·exact .role g
  exact .role g
 have t:=((h.up j).vote aE).1;have q:=p aE;have e:(aL m.c.st x).1=[]:=by
  unfold aL;split
  ·rfl
  split
  ·exact D_ q
  rename_i u i;split
  ·rfl
  exfalso;rename_i v;rw [not_or,not_or] at i;have r:uX m.c.st x=true:=by simpa using i.1.2
  have:=a.frm;have w:=mh a.may;have y:=eL a.may;have s:=a.to;simp only [uX,Bool.or_eq_true,decide_eq_true_eq] at r;omega
 unfold ct;split
 ·exact f
 split
 ·rw [e,(oc m).1]; exact f
 rw [e,(oc m).1]; exact f
def yQ {s:Nd} {ok:Bool} {up:Int}:(xL s x ok up).n.c.role=if x.term=s.c.st.term then 0 else s.c.role:=by
 unfold xL;by_cases a:x.term=s.c.st.term
 ·rw [if_pos a,if_pos a]; dsimp only;split
  ·rw [wX]; rfl
  rfl
 rw [if_neg a,if_neg a]; dsimp only;split
 ·rw [wX]
 rfl
def Rz (h:NInv m L):NInv (anA m x) L:=
 ⟨⟨h.ok.d,h.ok.many,h.ok.me,h.ok.log,h.ok.term,h.ok.com,h.ok.len.imp_right fun q=>⟨by show ((m.vs.set _ _).length:Int)=_; rw [acF]; exact q.1,by show ((m.bn.set _ _).length:Int)=_; rw [acF]; exact q.2.1,q.2.2⟩,h.ok.rp⟩,h.d,h.le,fun a=>⟨(h.up a).st,(h.up a).bin,(h.up a).role,(h.up a).vote,(h.up a).nx,(h.up a).pl⟩⟩
def AS (h:NInv m L) (v:m.d.down=false) (w:cX m.c x=true) (y:x.kind=3) (z:m.c.role≠0->x.term<=m.c.st.term) (i:LeadI m):LeadI (bB m x).n:=by
 obtain ⟨j,A⟩:=oM w;have f:=(A y).1;by_cases a:m.aJ (az m.c.st x).1=0;case neg=>
  have e:bB m x=⟨m.save (az m.c.st x).1,[],m.aJ (az m.c.st x).1⟩:=by rw [bB,if_neg aE,if_pos a]
  rw [e];rcases EX h v a with q | q
  ·rw [q]; exact i
  exact .dn q
 rw [Lb f a];obtain ⟨p,F,G,r,H⟩:=adg (x:=x) (s:=m.save (az m.c.st x).1) (ok:=(az m.c.st x).2.1) (up:=(az m.c.st x).2.2.1);have hc2:=(eF f).2;have I:=eL j.may;by_cases t:m.c.role=2;case neg=>
  refine .role ?_;rw [yQ];split
  ·exact (by decide:¬(0:Int)=2)
  exact t
 have B:=z aE;rcases hc2 with ⟨C,e⟩ | hc2
 ·have g:m.save (az m.c.st x).1=m:=by rw [e]; exact (oc m).1
  rw [g] at p r ⊢;refine i.of (fun q=>by rw [<- r]; exact q) (fun _=>t) p
 have D:(m.save (az m.c.st x).1).c.st.term=x.term:=by
  show (saveF _ _ _).2.1.term=_;rw [(nQ a).1];rcases hc2 with ⟨u,g,e⟩ | ⟨u,_,e⟩
  ·rw [e];show (stepsF m.c.st (iI m.c.st x)).1.term=x.term;rw [(Hz j.may h.ok.log (eF f).1.2.2 u g aE aE aE).1]
  rw [e];show (stepsF m.c.st (ay m.c.st x.term)).1.term=x.term;rw [D_ B];show m.c.st.term=x.term; omega
 refine .role ?_;rw [yQ,if_pos D.symm];exact (by decide:¬(0:Int)=2)
def abL (h:NInv n L) (a:n.d.down=false) (f:n.c.role=1) (e:n.d.b.length<=60000):LeadI (fj n).n:=by
 have g:=KI h a f;have i:=((h.up a).vote aE).2;unfold fj;dsimp only;split
 ·have q:=wv (y:=⟨n.c.st.term,[]⟩) g a (.inr ⟨e,by dsimp only; omega,rfl⟩) rfl i;split <;> exact q
 intro _ _;left; dsimp only; omega
def acU (a:LeadI n):LeadI (fa n x).n:=by
 rw [aah];have e:=wX (n.Kk x);refine a.of (fun q=>by rw [(RX _).1] at q; exact q) (fun q=>by rw [e] at q; exact q) (by rw [e]; rfl)
def rR (h:NInv m L) (p:m.d.down=false) (q:m.c.role≠0->x.term<=m.c.st.term) (a:m.d.b.length<=60000) (e:LeadI m):LeadI (bk m x).n:=by
 by_cases f:m.c.role=0
 ·have g:(m.save (ay m.c.st x.term)).c.role≠2:=by rw [DM]; dsimp only; omega
  by_cases i:m.aJ (ay m.c.st x.term)=0
  ·rw [SC i (.inr f)]; exact .role g
  rw [aai i]; exact .role g
 have r:=q f;by_cases j:x.term=m.c.st.term;case neg=>rw [acQ r (.inl j)]; exact e
 rw [adY j f];split
 ·rename_i s;split
  ·exact abL (Rz h) p s.2 a
  exact .role (by show m.c.role≠2; omega)
 split
 ·exact acU (n:=anB m x) (e.of id id rfl)
 exact e.of id id rfl
def Ig (h:NInv n L) (g:n.d.b.length<=60000) (i:LeadI n):LeadI (br n x).n:=by
 cases a:n.d.down;case true=>rw [aa4 a]; exact i
 cases f:cX n.c x;case false=>rw [acp a f]; exact i
 have j:=(oM f).1;by_cases s:n.c.st.term<x.term
 ·have p:ForMe n.follow x:=⟨j.may,j.to,j.frm⟩;have e:LeadI n.follow:=.role (show (0:Int)≠2 by decide);rw [Jc a f s];split
  ·exact GJ h.follow a p (fun q=>absurd rfl q) e
  split
  ·rename_i r; exact AS h.follow a f r (fun q=>absurd rfl q) e
  exact rR h.follow a (fun q=>absurd rfl q) g e
 rw [IB a f aE];split
 ·exact GJ h a j (fun _=>by omega) i
 split
 ·rename_i r; exact AS h a f r (fun _=>by omega) i
 exact rR h a (fun _=>by omega) g i
def aau (h:NInv n L) (a:LeadI n):LeadI (cR n c).n:=by
 unfold cR;split
 ·exact a
 rename_i j;have i:n.d.down=false:=by simpa using j
 split
 ·exact a
 rename_i r;split
 ·exact a
 split
 ·exact a
 split
 ·exact a
 split
 ·exact a
 split
 ·exact a
 rename_i e;have p:(dS c n.c.st.term n.c.s.version).1.term=n.c.st.term:=by
  unfold dS at e ⊢;split at e
  ·rename_i f;rw [if_pos f];split at e
   ·rename_i g; rw [if_pos g]
   rename_i g; exact absurd g e
  rename_i f; exact absurd f e
 have f:=((h.up i).vote aE).2;have q:=wv (y:=(dS c n.c.st.term n.c.s.version).1) h i (.inl a) p f;dsimp only;split <;> exact q
def Tf (f:LeadI n):LeadI (aZ n b).n:=by
 cases a:n.d.down;case false=>rw [abF a]; exact f
 by_cases e:b_ b (max (replayF n.d.b).1.floor 1)=0;case neg=>rw [aat a e]; exact f
 by_cases g:(replayF n.d.b).1.floor<b;case neg=>rw [Wd a e aE]; exact .role (show (0:Int)≠2 by decide)
 by_cases h:(n.fr b).aJ [⟨1,b,0,[]⟩]=0
 ·rw [RR a e g h]; exact .role (show (0:Int)≠2 by decide)
 rw [Sm a e g h]; exact .dn rfl
def aaD (h:NInv n L) (e:n.d.b.length<=60000) (a:LeadI n):LeadI (cP n o).1:=by
 unfold cP;split
 ·exact Tf a
 split
 ·exact H_ a
 split
 ·exact a
 split
 ·exact Ig h e a
 split
 ·exact aau h a
 split
 ·exact a.of id id rfl
 split
 ·exact .dn rfl
 exact a
end
structure ZRo where
 i:Nat
 n:Nd
structure ZRk where
 i:Nat
 n:Nd
 k:Nat
structure DR (n:Nd) (i:Nat):Prop where
 ex:∃ L,NInv n L/\n.d.b.length<=1400*i
 l:LeadI n
 me:n.c.me=1/\n.c.many=5
section
variable {n m:Nd} {o:NOp} {i k:Nat}
theorem DR.ok (h:DR n i):NdOK n:=by obtain ⟨L,h,_⟩:=h.ex; exact h.ok
def aiZ:DR (im 1 5) 0:=⟨⟨[],FT am,af3 _⟩,.dn rfl,rfl,rfl⟩
variable {l:List NOp}
def Ak (h:DR n i) (b:(i:Int)<((l.take 40).length:Int)):DR (cP n o).1 (i+1):=by
 obtain ⟨L,a,d⟩:=h.ex;obtain ⟨c,k⟩:=acb (o:=o) a;have:=k.len;rw [List.length_take] at b;exact ⟨⟨c,k.inv,aE⟩,aaD a aE h.l,by rw [k.me.1,k.me.2]; exact h.me⟩
def w_ (a:(bA m).up=true):m.d.down=false:=by
 cases e:m.d.down
 ·rfl
 rw [Nt e] at a; cases a
theorem BX:∀ {l:List Int},(∀ to ∈ l,(iG n to).2=0)->cm n l=(l.map fun to=>(iG n to).1,0)
 | [],_=>rfl
 | to :: l,h=>by
  rw [cm,if_pos (h to aa),BX fun t a=>h t (by simp [a])];exact if_pos rfl
def aiz (h:DR m i):cu m.c=[0,2,3,4]:=by
 unfold cu iW; rw [h.me.1,h.me.2]; decide
abbrev cyF (n:Nd) (a:Int):Letter:=ku n.c.st ⟨n.c.me,a,n.nx.getD a.toNat 0,n.c.commit,n.c.bin⟩
def O_ (a:(bA m).role=2) (e:(bA m).up=true) (h:DR m i):aU m=([cyF m 0,cyF m 2,cyF m 3,cyF m 4],0):=by
 have b:=w_ e;rw [iQ b] at a;dsimp only at a;obtain ⟨L,f,_⟩:=h.ex;have q:∀ d ∈ cu m.c,(iG m d).2=0:=fun d g=>ahq f b a (rh g);rw [aU,if_neg (by rw [b]; decide),if_pos a,BX q];rw [aiz h] at q ⊢;simp only [acw,af8,or_false] at q;simp only [afV,List.map_nil];rw [rY (q 0 aa),rY (q 2 aa),rY (q 3 aa),rY (q 4 aa)]
def ahP (a:((bA m).role<0\/2<(bA m).role)\/¬(bA m).role=0/\¬(bA m).vote=2) (b:(bA m).up=true) (h:DR m i):false=true:=by
 obtain ⟨L,c,_⟩:=h.ex;have q:=c.up (w_ b);rw [iQ (w_ b)] at a;dsimp only at a;have:=q.role;have:=q.vote;have:=h.me.1;omega
def ajb (a:¬(aU m).2=0\/¬((aU m).1.length:Int)=4) (b:(bA m).role=2) (c:(bA m).up=true) (h:DR m i):false=true:=by
 rw [O_ b c h] at a; simp at a
def adi (a:(k:Int)<((aU m).1.length:Int)) (b:(bA m).role=2) (c:(bA m).up=true) (h:DR m i):k<4:=by
 rw [O_ b c h] at a; simp at a; omega
def ajc {d:Letter} (b:((((¬((aU m).1.getD k d).kind=3\/¬((aU m).1.getD k d).frm=1)\/((aU m).1.getD k d).to=1)\/¬((aU m).1.getD k d).term=(bA m).term)\/¬((aU m).1.getD k d).c=(bA m).commit)\/0<(k:Int)/\((aU m).1.getD k d).to<=((aU m).1.getD ((k:Int) - 1).toNat d).to) (g:(k:Int)<((aU m).1.length:Int)) (f:(bA m).role=2) (a:(bA m).up=true) (h:DR m i):false=true:=by
 have j:=adi g f a h;have e:=h.me.1;rw [O_ f a h,iQ (w_ a)] at b;have:k=0\/k=1\/k=2\/k=3:=by omega
 rcases this with rfl | rfl | rfl | rfl <;> simp [ku,e] at b
def agv {d:Entry} (hd:(¬(aH m).e=0\/¬((aH m).l.length:Int)=0)\/((bA m).log.length:Int)<64/\(((bA m).log.length:Int)=0\/¬((bA m).log.getD (((bA m).log.length:Int) - 1).toNat d).term=(bA m).term)) (b:(bA m).role=2) (f:(bA m).up=true) (h:DR m i):false=true:=by
 have a:=w_ f;rw [iQ a] at b hd;dsimp only at b hd;rw [aH,if_neg (by rw [a]; decide),if_pos b] at hd;rcases hd with (hd | hd) | ⟨hd,hd2⟩
 ·exact absurd rfl hd
 ·exact absurd rfl hd
 rcases h.l a b with q | ⟨g,j⟩
 ·omega
 have p:m.c.st.log.length≠0:=fun e=>g (acu e);rcases hd2 with hd2 | hd2
 ·omega
 refine absurd ?_ hd2;rw [<- j,fT,show ((m.c.st.log.length:Int) - 1).toNat=m.c.st.log.length - 1 by omega,List.getD_eq_getElem?_getD,List.getD_eq_getElem?_getD,List.getElem?_eq_getElem aE]; rfl
def agf (a:¬(aU m).2=33\/¬((aU m).1.length:Int)=0) (b:¬(bA m).role=2) (c:(bA m).up=true):false=true:=by
 rw [iQ (w_ c)] at b;rw [aU,if_neg (by rw [w_ c]; decide),if_neg b] at a;simp at a
def agL (hd:(aH m).e=0/\(((¬((aH m).l.length:Int)=4\/¬(bA (aH m).n).role=1)\/¬(bA (aH m).n).term=(bA m).term+1)\/¬(bA (aH m).n).vote=2)\/((¬(aH m).e=0/\¬(aH m).e=4)/\¬(aH m).e=30)/\¬(aH m).e=20) (f:¬(bA m).role=2) (w:(bA m).up=true) (h:DR m i) (D:i<=41):false=true:=by
 have a:=w_ w;obtain ⟨L,j,F⟩:=h.ex;have x:=h.me;have z:=j.ok.term;rw [iQ a] at f;dsimp only at f;rw [aH,if_neg (by rw [a]; decide),if_neg f] at hd;by_cases b:(aP m.c.st m.c.me).2=0;case neg=>
  rw [if_pos b] at hd;have e:(aP m.c.st m.c.me).2=4:=by
   unfold aP at b ⊢;rw [if_neg aE] at b ⊢;split at b
   ·rename_i q; rw [if_pos q]
   exact absurd rfl b
  dsimp only at hd;omega
 obtain ⟨A,p⟩:=yZ b aE z.1;have B:m.c.st.term<1048576:=by
  unfold aP at b;rw [if_neg aE] at b;split at b
  ·cases b
  omega
 rw [if_neg (Classical.not_not.2 b),A] at hd;dsimp only at hd;have g:recOk ⟨2,m.c.st.term+1,m.c.me+1,[]⟩=true:=Hu.2 (.inr (.inl ⟨rfl,by dsimp only; omega,by dsimp only; omega,by dsimp only; omega,by dsimp only; omega,afO 0⟩));rcases EI (d:=m.d) (s:=m.c.st) (l:=[⟨2,m.c.st.term+1,m.c.me+1,[]⟩]) a aE (by rw [List.all_cons,g]; rfl) aa (by rw [p]) with q | ⟨_,q⟩
 ·have y:=lV j a aa (RI am) q;rw [if_neg (Classical.not_not.2 q)] at hd;have r:=y.st;rw [p] at r;generalize [Record.mk 2 (m.c.st.term+1) (m.c.me+1) []]=l at *;have C:cu (m.save l).dj.c=[0,2,3,4]:=by
   have t:(m.save l).dj.c.me=1/\(m.save l).dj.c.many=5:=x;unfold cu iW; rw [t.1,t.2]; decide
  have u:(m.save l).dj.c.st.term=m.c.st.term+1/\(m.save l).dj.c.st.vote=2:=by
   show (m.save l).c.st.term=_/\(m.save l).c.st.vote=_;rw [r]; exact ⟨rfl,by dsimp only; omega⟩
  rw [iQ (n:=(m.save l).dj) y.dn,iQ a,fP,C] at hd;dsimp only at hd;rw [u.1,u.2] at hd;rcases hd with ⟨_,((hd | hd) | hd) | hd⟩ | ⟨⟨⟨hd,_⟩,_⟩,_⟩
  ·simp at hd
  ·exact absurd rfl hd
  ·exact absurd rfl hd
  ·exact absurd rfl hd
  exact absurd rfl hd
 have v:m.aJ [⟨2,m.c.st.term+1,m.c.me+1,[]⟩]=30:=q;rw [if_pos (by rw [v]; decide),v] at hd;dsimp only at hd;omega
def agV (a:(bA m).up=true) (h:DR m i):I64 ((bA m).term+1):=by
 have:=h.ok.term;rw [iQ (w_ a)];exact aD (by dsimp only; omega) (by dsimp only; omega)
def ajd {s:ZRk} {a N:Nat} (h:s.i=(ZRk.mk a n k).i) (b:(a:Int)<(N:Int)):N - (s.i+1)<N - a:=by rw [h]; dsimp only; omega
def agj (h:(i:Int)<((l.take 40).length:Int)):i+1<=41:=by rw [List.length_take] at h; omega
end
def aaJ (l:List NOp):List (Nat × LI):=[(7,{ σ:=ZRo,F:=fun q=>([(0,one (.fz (.nm .nop) (l.take 40))),(4,one (.ptr 0 0)),(6,one (.int q.i))],(kI (q.n))),J:=fun q=>q.i<=(l.take 40).length/\DR q.n q.i,μ:=fun q=>(l.take 40).length - q.i }),(20,{ σ:=ZRk,F:=fun q=>([(0,one (.fz (.nm .nop) (l.take 40))),(4,one (.ptr 0 0)),(6,one (.int q.i)),(7,one (.ptr 8 0)),(8,one (.ptr 9 0)),(9,one (.fz (.nm .letter) (aU q.n).1)),(11,one (.int q.k))],(kI (q.n)++([.box 48 (cellsOf (.nm .site) (bA q.n))]++ndO 9 ((q.n))))),J:=fun q=>q.i<(l.take 40).length/\DR q.n (q.i+1)/\(bA q.n).up=true/\(bA q.n).role=2/\q.k<=(aU q.n).1.length,μ:=fun q=>(aU q.n).1.length - q.k,R:=some fun a q=>q.i=a.i/\q.n=a.n })]
set_option maxHeartbeats 4000000 in
set_option maxRecDepth 8000 in
theorem Sb (l:List NOp):Sat Tryz.prog (ak tyT) 9 [.c (.fz (.nm .nop) (l))] [] ⟨[],[.c (.bool (.atom ((true))))],none,false⟩:=by
 refine av NY (aaJ l) Tryz.func9 (?_:(fun (q11:Nat)=>(fun (B:Int)=>(fun (q9:Int)=>(fun (F:Int)=>(fun (q7:Prop)=>(fun (S:Nat)=>(fun (q5:Int)=>(fun (q4:List (den (Sh.nm NT.nop)))=>(fun (G:Prop)=>(fun (H:Nat)=>(fun (g:Int)=>(fun (q:Int)=>(fun (q0:den (Sh.nm NT.letter))=>l.length*200<=S->(q5<=B/\B<=B/\g<=q/\q<B)/\(I64 g->((true=false\/q7)\/¬g=g->q7)/\((true=true/\false=false)/\g=g->q4.length*200<=S->∃ (p:ZRo),(G/\g=(↑p.i:Int)/\bL (im q B) p.n)/\(p.i<=H/\DR p.n p.i)/\∀ (s:ZRo),(fun (z:Int)=>(fun (T:Nd)=>s.i<=H/\DR T s.i->(z<(↑q4.length:Int)->g<=z/\z<(↑q4.length:Int)/\∀ (x:NOp),(fun (U:ToldN)=>(fun (m:Nd)=>(fun (I:Int)=>(fun (J:Nat)=>(fun (v:Site)=>(fun (w:Int)=>(fun (q18:Prop)=>(fun (r:NdR)=>(fun (K:Prop)=>(fun (q24:Prop)=>(fun (y:Site)=>q4[s.i]? = some x->XL x (NdOK T/\(U.l.length*96<=S->I64 U.a->I64 U.b->I64 U.e->Qb v ((v.up=false->q18)/\(v.up=true->((w<g\/F<w)\/¬w=g/\¬v.vote=F->q7)/\((g<=w/\w<=F)/\(w=g\/v.vote=F)->NdOK m/\m.c.many<=B/\(m.c.role=g\/(↑m.nx.length:Int)=m.c.many)/\(J*96<=S->I64 I->(w=F->(¬I=g\/¬(↑J:Int)=q9->q7)/\(I=g/\(↑J:Int)=q9->∃ (p:ZRk),(G/\z=(↑p.i:Int)/\(aU m).fst=(aU p.n).fst/\g=(↑p.k:Int)/\Bc m p.n (Ni v (bA p.n) (bL m p.n)))/\(p.i<H/\DR p.n (p.i+1)/\(bA p.n).up=true/\(bA p.n).role=F/\p.k<=(aU p.n).fst.length)/\(p.i=p.i/\p.n=p.n)/\∀ (d:ZRk),(fun (C:NdR)=>(fun (D:List Letter)=>(fun (L:Int)=>(fun (o:Int)=>(fun (q36:Prop)=>(fun (q31:Prop)=>(fun (A:Site)=>(fun (q38:Int)=>(fun (V:Int)=>(fun (N:Prop)=>(fun (t:Int)=>(fun (q40:Prop)=>(fun (W:den (Sh.nm NT.entry))=>(fun (u:den (Sh.nm NT.letter))=>(fun (f:den (Sh.nm NT.letter))=>(fun (X:Prop)=>(fun (Y:Prop)=>(fun (q44:Prop)=>(fun (O:Prop)=>(fun (Z:Prop)=>(fun (P:Prop)=>(fun (Q:Prop)=>d.i<H/\DR d.n (d.i+1)/\A.up=true/\A.role=F/\d.k<=D.length->d.i=p.i/\d.n=p.n->(o<L->g<=o/\o<L/\(Y->N)/\(O->N)/\(O/\¬X->N)/\(Z->N)/\(P->N)/\(P->I64 (o - q))/\(P->g<=o - q/\o - q<L)/\aT f ((Y->Q)->(O->Q)->(O/\¬X->Q)->(Z->Q)->(P->Q)->(P->I64 u.kind/\I64 u.frm/\I64 u.to/\I64 u.term/\I64 u.a/\I64 u.b/\I64 u.c/\I64 u.bin/\u.l.length*q11<=S)->(((((¬Y\/¬f.frm=q)\/X)\/¬f.term=V)\/¬q44)\/q36/\f.to<=u.to->q7)/\((Z/\q44)/\(o<=g\/u.to<f.to)->I64 (o+q)/\∃ (j:ZRk),(G/\(↑d.i:Int)=(↑j.i:Int)/\D=(aU j.n).fst/\o+q=(↑j.k:Int)/\Bc d.n j.n (Ni A (bA j.n) (bL d.n j.n)))/\(j.i<H/\DR j.n (j.i+1)/\(bA j.n).up=true/\(bA j.n).role=F/\j.k<=(aU j.n).fst.length)/\(j.i=p.i/\j.n=p.n)/\(aU j.n).fst.length - j.k<D.length - d.k)))/\(L<=o->NdOK d.n/\(C.l.length*96<=S->I64 C.e->(q40->I64 (t - q))/\(q40->g<=t - q/\t - q<t)/\((q40->I64 W.term/\W.b.length*1<=S)->((¬C.e=g\/¬(↑C.l.length:Int)=g)\/t<64/\(t=g\/¬W.term=V)->q7)/\(q31/\(64<=t\/¬t=g/\W.term=V)->I64 ((↑d.i:Int)+q)/\∃ (j:ZRo),(G/\(↑d.i:Int)+q=(↑j.i:Int)/\bL d.n j.n)/\(j.i<=H/\DR j.n j.i)/\H - j.i<H - s.i))))) (I64 f.kind/\I64 f.frm/\I64 f.to/\I64 f.term/\I64 f.a/\I64 f.b/\I64 f.c/\I64 f.bin/\f.l.length*q11<=S)) ((Z/\q44)/\q36)) ((O/\¬X)/\f.term=V)) (Y/\f.frm=q)) (f.c=q38)) (f.kind=q5)) (f.to=q)) (D.getD d.k q0)) (D.getD (o - q).toNat q0)) (A.log.getD (t - q).toNat (au (Sh.nm NT.entry)))) (q31/\t<64/\¬t=g)) (↑A.log.length:Int)) (g<=o/\o<L)) A.term) A.commit) (bA d.n)) (C.e=g/\(↑C.l.length:Int)=g)) (g<o)) (↑d.k:Int)) (↑D.length:Int)) (aU d.n).fst) (aH d.n)))/\(¬w=F->(¬I=33\/¬(↑J:Int)=g->q7)/\(I=33/\(↑J:Int)=g->NdOK m/\(r.l.length*96<=S->I64 r.e->Qb y ((K->q24/\y.role=q->I64 (v.term+q))/\(K/\(((¬q24\/¬y.role=q)\/¬y.term=v.term+q)\/¬y.vote=F)\/((¬K/\¬r.e=q9)/\¬r.e=30)/\¬r.e=20->q7)/\((¬K\/((q24/\y.role=q)/\y.term=v.term+q)/\y.vote=F)/\(((K\/r.e=q9)\/r.e=30)\/r.e=20)->q18)))))))))))) (bA r.n)) ((↑r.l.length:Int)=q9)) (r.e=g)) (aH m)) (I64 (z+q)/\∃ (j:ZRo),(G/\z+q=(↑j.i:Int)/\bL m j.n)/\(j.i<=H/\DR j.n j.i)/\H - j.i<H - s.i)) v.role) (bA m)) (aU m).fst.length) (aU m).snd) (cP T x).fst) (cP T x).snd)/\((↑q4.length:Int)<=z->true=true)) s.n) (↑s.i:Int)))) (au (Sh.nm NT.letter))) 1) 0) (List.take 40 l).length) (q4=q4)) (List.take 40 l)) 3) 140737488355328) (false=true)) 2) 4) 5) 32)
 (repeat' with_reducible first|apply aV|refine bl ?_|intro)
 all_goals try (refine ⟨ZRo.mk 0 (im 1 5),?_⟩; (repeat' with_reducible first|apply aV|refine bl ?_|intro))
 all_goals try (refine ⟨ZRo.mk (‹ZRo›.i+1) (cP ‹ZRo›.n ‹NOp›).1,?_⟩; (repeat' with_reducible first|apply aV|refine bl ?_|intro))
 all_goals try (refine ⟨ZRk.mk ‹ZRo›.i (cP ‹ZRo›.n ‹NOp›).1 0,?_⟩; (repeat' with_reducible first|apply aV|refine bl ?_|intro))
 all_goals try (refine ⟨ZRk.mk ‹ZRk›.i ‹ZRk›.n (‹ZRk›.k+1),?_⟩; (repeat' with_reducible first|apply aV|refine bl ?_|intro))
 all_goals try (refine ⟨ZRo.mk (‹ZRk›.i+1) ‹ZRk›.n,?_⟩; (repeat' with_reducible first|apply aV|refine bl ?_|intro))
 all_goals (first | exact bY | exact rfl | exact aiZ | exact (ago ab) | (dsimp only; omega) | exact (DR.ok ab) | exact (Ak ab ab) | exact (DR.ok (Ak ab ab)) | exact (DR.ok (Ak ab ab)).many.2 | exact ((DR.ok (Ak ab ab)).len.imp_right fun h=>h.2.2.1) | (exact ahP ab ab (Ak ab ab)) | (exact ajb ab ab ab (Ak ab ab)) | (exact agf ab ab ab) | (exact agL ab ab ab (Ak ab ab) (agj ab)) | (exact ajc ab ab ab ab ab) | (exact agv ab ab ab ab) | (exact agV ab (Ak ab ab)) | (have:=adi ab ab ab ab; exact aD aE aE) | exact (ajd ab ab))
end Go.Proofs.YticbaadnibdbkaaGreat
namespace Go.Proofs.YticbaadnibdbkaaGreat
open Go.RowKit Go.ChangeShapes Go.WideShapes
def Fm (shp:TypeId->Option Sh) (w:World):Cx:=cx ⟨shp,w.heap.size,fun _=>False⟩ [] w
def aad {shp:TypeId->Option Sh} {w:World} {s:Sh} {b:Nat} (h:b<w.heap.size):(Fm shp w).at s b:=⟨⟨h,fun ⟨_,_,h,_⟩=>by simp at h,fun h=>h⟩,.inl h⟩
def Tr (P:Program) (shp:TypeId->Option Sh) (t:TypeId) (s:Sh):Prop:=
 ∀ (H:Type) (b:TypeId × Value->H) (w:World) (a:Nat) (c:List Value) (x:DataW H × List MemPlace),
  DataW.trod b P w 0 (fun _=>true) true a t c=some x->(∀ n ∈ x.1.weights P t,n<=140737488351232)->(∀ q ∈ x.2,q.block<w.heap.size)->∃ y:den s,Pds (Fm shp w) (cellsOf s y) c
def aaR:List Sh->List AV->Prop
 | [],a=>a=[]
 | s :: r,a=>∃ (y:den s) (l:List AV),a=cellsOf s y++l/\aaR r l
def szL:List Sh->Nat
 | []=>0
 | s :: r=>s.size+szL r
def mi (P:Program) (shp:TypeId->Option Sh) (d:List Go.Field) (o:Nat) (h:List Sh):Prop:=
 ∀ (H:Type) (e:TypeId × Value->H) (w:World) (a:Nat) (g:List Value) (c:List (DataW H × List MemPlace)),
  g.length=o+szL h->c.length=d.length->(∀ (i:Nat) (f:Go.Field),d[i]? = some f->DataW.trod e P w 0 (fun _=>true) true a f.type ((g.drop f.offset).take (P.cellsOf f.type))=c[i]?) ->
  (∀ n ∈ DataW.weightsEach P (d.map (·.type)) (c.map (·.1)),n<=140737488351232)->(∀ q ∈ c.flatMap (·.2),q.block<w.heap.size)->∃ b,aaR h b/\Pds (Fm shp w) b (g.drop o)
section
variable {P:Program} {shp:TypeId->Option Sh} {t:TypeId}
theorem Tr.int (h:P.underlying t=some (.int .i64)):Tr P shp t .int:=fun _ b w a e x c _ _=>by
 obtain ⟨n,rfl,_,d⟩:=DataW.trod_int h c;have f:IntKind.i64.min = -9223372036854775808:=rfl;have g:IntKind.i64.max=9223372036854775807:=rfl;simp only [Lit.wf,Bool.and_eq_true,decide_eq_true_eq] at d;exact ⟨n,.cons (.int ⟨aE,aE⟩) .nil⟩
def Tr.bool (h:P.underlying t=some .bool):Tr P shp t .bool:=fun _ b w a d x c _ _=>by
 obtain ⟨n,rfl,_⟩:=DataW.trod_bool h c;exact ⟨n,.cons (Pd.bool (e:=.atom n)) .nil⟩
def Tr.u8 (h:P.underlying t=some (.int .u8)):Tr P shp t .u8:=fun _ c w a f x d _ _=>by
 obtain ⟨n,rfl,_,e⟩:=DataW.trod_int h d;have g:IntKind.u8.min=0:=rfl;have i:IntKind.u8.max=255:=rfl;simp only [Lit.wf,Bool.and_eq_true,decide_eq_true_eq] at e;refine ⟨UInt8.ofNat n.toNat,?_⟩;have:n=((UInt8.ofNat n.toNat).toNat:Int):=by
  rw [UInt8.toNat_ofNat']; omega
 generalize j:UInt8.ofNat n.toNat=b at this;subst this;exact .cons .u8 .nil
def Tr.u64 (h:P.underlying t=some (.int .u64)):Tr P shp t .u64:=fun _ c w a f x d _ _=>by
 obtain ⟨n,rfl,_,e⟩:=DataW.trod_int h d;have g:IntKind.u64.min=0:=rfl;have i:IntKind.u64.max=18446744073709551615:=rfl;simp only [Lit.wf,Bool.and_eq_true,decide_eq_true_eq] at e;refine ⟨⟨n.toNat⟩,?_⟩;have:n=(n.toNat:Int):=by omega
 generalize j:n.toNat=b at this;subst this;exact .cons (.u64 (by show b<_; omega)) .nil
def Tr.str (h:P.underlying t=some .string):Tr P shp t .str:=fun _ d w b g x a f _=>by
 obtain ⟨s,rfl,a,_⟩:=DataW.trod_string h a;refine ⟨⟨s.data.toList⟩,?_⟩;have:=f s.data.toList.length (by rw [a]; simp [DataW.weights]);have e:=Pd.str (c:=Fm shp w) (s:=⟨s.data.toList⟩) (by show s.data.toList.length<=_; omega);have i:(⟨s.data.toList⟩:Str).val = .string s:=by simp [Str.val]
 exact .cons e .nil
theorem lh {H:Type} {e:TypeId}:∀ {a:List (DataW H)} {d:DataW H},d ∈ a->∀ n ∈ d.weights P e,n ∈ DataW.weightsAll P e a
 | d0 :: a,d,h,n,b=>by
  rw [DataW.weightsAll,acq];rcases acw.1 h with rfl | h
  ·grind
  exact .inr (lh h n b)
def Jz {s:Sh} {a:List (den s)} {y:den s}:(a++[y]).flatMap (cellsOf s)=a.flatMap (cellsOf s)++cellsOf s y:=by simp
theorem Tr.list {e:TypeId} {s:Sh} (u:P.underlying t=some (.slice e)) (O:P.cellsOf e=s.size) (hB:P.bytesOf e=s.bytes) (Q:Tr P shp e s):Tr P shp t (.lst s):=fun H z w K A x S L i=>by
 have T:=size_pos s;rcases DataW.trod_slice u S with ⟨rfl,_⟩ | ⟨a,len,U,c,f,n,rfl,rfl,rfl,_,hl,V,W,l,B,_⟩
 ·exact ⟨([]:List (den s)),.cons (Pd.yp (.em (a:=none) (b:=true) rfl)) .nil⟩
 rw [O] at *;have step:∀ m,m<=len->∃ (d:List Value) (h:List (den s)),Pds (Fm shp w) (h.flatMap (cellsOf s)) d/\h.length=m/\CellsAt w a d:=by
  intro m;induction m with
  | zero=>intro _; exact ⟨[],[],.nil,rfl,CellsAt.nil⟩
  | succ m X=>
   intro hm;obtain ⟨d,h,p,r,C⟩:=X aE;have N:=l m aE;have D:c[m]? = some (c[m]' aE):=List.getElem?_eq_getElem aE;rw [D,Option.bind_eq_some_iff] at N;obtain ⟨A,F,G⟩:=N;have g:c[m]' aE ∈ c:=afT _;obtain ⟨y,Y⟩:=Q H z w n A _ G
    (fun k Z=>L k (by
     simp only [DataW.weights,u,acw,acq];exact .inr (.inl (lh (ahX g) k Z))))
    (fun q hq=>i q (by
     simp only [acq,List.mem_flatMap];exact .inr ⟨_,.inl g,hq⟩))
   obtain ⟨_,hcl,I⟩:=World.cells?_some F;refine ⟨d++A,h++[y],by rw [Jz]; exact p.append Y,by simp [r],fun j v o=>?_⟩;have J:d.length=m*s.size:=by rw [<- p.length,bU,r]
   by_cases hj:j<m*s.size
   ·rw [List.getElem?_append_left aE] at o;exact C j v o
   rw [afS aE,J] at o;have hj2:=xN o;have:=I (j - m*s.size) aE;rw [o,add_add,show m*s.size+(j - m*s.size)=j by omega] at this;exact this
 obtain ⟨d,h,p,r,C⟩:=step len (Nat.le_refl _);have hwt:(c.length+f.length)*P.bytesOf e<=140737488351232:=L _ (by simp [DataW.weights,u]);refine ⟨h,.cons ?_ .nil⟩;subst r;refine .fz aE V ?_ p ?_
 ·grind
 by_cases h0:h.length=0
 ·grind
 right;refine ⟨a,rfl,aad ?_,C⟩;have:MemPlace.cell a.block (a.off+0) ∈ MemPlace.row a ((c.length+f.length)*s.size):=MemPlace.mem_row.2 ⟨0,Nat.mul_pos aE T,rfl⟩;exact i _ (acz _ this)
def mi.nil {o:Nat}:mi P shp [] o []:=fun H b w a d e c _ _ _ _=>⟨[],rfl,by rw [List.drop_eq_nil_of_le (by simp only [szL] at c; omega)]; exact .nil⟩
def mi.cons {f:Go.Field} {p:List Go.Field} {o:Nat} {s:Sh} {d:List Sh} (h:Tr P shp f.type s) (B:f.offset=o) (C:P.cellsOf f.type=s.size) (D:mi P shp p (o+s.size) d):mi P shp (f :: p) o (s :: d):=fun H b w a r e F g u v c=>by
 match e,g with
 | x :: e,g=>
  have G:r.length=o+(s.size+szL d):=F;have A:=u 0 f rfl;rw [B,C] at A;obtain ⟨y,I⟩:=h H b w a _ x A (fun n j=>v n (by simp [DataW.weightsEach,j])) (fun q k=>c q (by simp [k]));obtain ⟨z,l,m⟩:=D H b w a r e aE (by simpa using g) (fun i J K=>by simpa using u (i+1) J (by simpa using K)) (fun n j=>v n (by simp only [afV,DataW.weightsEach,acq]; exact .inr j)) (fun q k=>c q (by simp only [List.flatMap_cons,acq]; exact .inr k));refine ⟨cellsOf s y++z,⟨y,z,rfl,l⟩,?_⟩;have:=I.append m;rwa [<- af5,List.take_append_drop] at this
theorem Tr.struct {s:Sh} {ss:List Sh} {e:Array Go.Field} (g:P.underlying t=some (.struct e)) (v:P.cellsOf t=szL ss) (z:∀ a,aaR ss a->∃ y:den s,a=cellsOf s y) (h:mi P shp e.toList 0 ss):Tr P shp t s:=fun H b w j l x m o c=>by
 obtain ⟨p,n,_,rfl,A,d,q⟩:=DataW.trod_struct g m;obtain ⟨a,B,C⟩:=h H b w n l p aE (by simpa using d) (fun i f r=>q i f (by simpa using r)) (fun k u=>o k (by simpa [DataW.weights,g] using u)) c;grind
end
section
variable {H:Type} {enc:TypeId × Value->H} {P:Program} {shp:TypeId->Option Sh}
structure Ar (enc:TypeId × Value->H) (P:Program) (W:World) (t:TypeId) (v:Value):Prop where
 form:∃ base,Value.okWide P W .any base t v
 read:∃ d p fuel,DataW.trod enc P W 0 (fun _=>true) true fuel t v.cells.toList=some (d,p)/\(∀ n ∈ d.weights P t,n<=140737488351232)/\(∀ q ∈ p,q.block<W.heap.size)
variable {W:World} {t:TypeId} {v:Value}
def Ar.rp {s:Sh} (h:Ar enc P W t v) (b:Tr P shp t s):∃ y:den s,Pds (Fm shp W) (cellsOf s y) v.cells.toList:=by
 obtain ⟨d,p,a,c,e,f⟩:=h.read;exact b H enc W a _ _ c e f
def Dj {a:AV} {u:Value} (h:Pds (Fm shp W) [a] [u]):di (Fm shp W) [] (.c a) u:=by cases h with | cons b _=>exact kU b
theorem Ar.int (h:Ar enc P W t v) (a:P.underlying t=some (.int .i64)):∃ y:Int,di (Fm shp W) [] (.c (.int y)) v:=by
 obtain ⟨base,b⟩:=h.form;obtain ⟨n,rfl⟩:=okWide_int a b;obtain ⟨y,d⟩:=h.rp (shp:=shp) (Tr.int a);exact ⟨y,Dj (by simpa [Value.cells,cellsOf] using d)⟩
def Ar.u8 (h:Ar enc P W t v) (a:P.underlying t=some (.int .u8)):∃ y:UInt8,di (Fm shp W) [] (.c (.u8 y)) v:=by
 obtain ⟨base,b⟩:=h.form;obtain ⟨n,rfl⟩:=okWide_int a b;obtain ⟨y,d⟩:=h.rp (shp:=shp) (Tr.u8 a);exact ⟨y,Dj (by simpa [Value.cells,cellsOf] using d)⟩
def Ar.bool (h:Ar enc P W t v) (a:P.underlying t=some .bool):∃ y:Bool,di (Fm shp W) [] (.c (.bool (.atom y))) v:=by
 obtain ⟨base,d⟩:=h.form;obtain ⟨b,rfl⟩:=okWide_bool a d;exact ⟨b,Pd.bool (e:=.atom b)⟩
def Ar.list {e:TypeId} {s:Sh} (h:Ar enc P W t v) (b:P.underlying t=some (.slice e)) (d:Tr P shp t (.lst s)):∃ f:List (den s),di (Fm shp W) [] (.c (.fz s f)) v:=by
 obtain ⟨base,g⟩:=h.form;obtain ⟨a,len,i,rfl⟩:=okWide_slice b g;obtain ⟨y,j⟩:=h.rp d;exact ⟨y,Dj (by simpa [Value.cells,cellsOf] using j)⟩
def Tn {f:Nat} {args:List TV1} {pre:List Prop} {e:BE} {b:List Value} (h:Sat P shp f args [] ⟨pre,[.c (.bool e)],none,false⟩) (a:e.val=true) (g:All2 (di (Fm shp W) []) args b) (d:TabsOK (Fm shp W):=by refine ⟨?_,?_⟩ <;> intro e a <;> first | simp [SJ] at a | simp [ac0] at a):jT P f b.toArray W fun r i=>r = .bool true/\Kp [] W i:=by
 refine (h.2 ⟨shp,W.heap.size,fun _=>False⟩ [] W b rfl ⟨.nil,fun _ _ _ _ _ h=>by simp at h,fun _ _ _ h=>by simp at h,fun _ h=>h.elim,Nat.le_refl _,d⟩ g).mono fun v o ⟨p,j,k,l⟩=>⟨?_,k⟩;cases l with | cons m n=>
 cases n;cases m;rw [j,a]; rfl
variable {ds:List (DataW H)} {args:Array Value}
def SH {base:Nat} {a:List TypeId} {p:List MemPlace} (k:∀ (j:Nat) t v,a[j]? = some t->args[j]? = some v->Value.okWide P W .any base t v)
  (h:DataW.TrodAll enc P W 0 (fun _=>true) true a args.toList ds p) (i:∀ n ∈ DataW.weightsEach P a ds,n<=140737488351232) (c:∀ q ∈ p,q.block<W.heap.size) :
  args.size=a.length/\∀ (j:Nat) t v,a[j]? = some t->args[j]? = some v->Ar enc P W t v:=by
 have l:∀ (a:List TypeId) (e:List Value) (ds:List (DataW H)) (p:List MemPlace),DataW.TrodAll enc P W 0 (fun _=>true) true a e ds p->(∀ n ∈ DataW.weightsEach P a ds,n<=140737488351232)->(∀ q ∈ p,q.block<W.heap.size) ->
   e.length=a.length/\∀ (j:Nat) t v,a[j]? = some t->e[j]? = some v->∃ d p b,DataW.trod enc P W 0 (fun _=>true) true b t v.cells.toList=some (d,p)/\(∀ n ∈ d.weights P t,n<=140737488351232)/\(∀ q ∈ p,q.block<W.heap.size):=by
  intro a;induction a with
  | nil=>intro e ds p h _ _; obtain ⟨rfl,_,_⟩:=trodAll_nil h; exact ⟨rfl,fun j t v h=>by simp at h⟩
  | cons t a u=>
   intro e ds p h i c;obtain ⟨v,e,d,ds,w,x,rfl,rfl,rfl,y,z⟩:=trodAll_cons h;obtain ⟨m,o⟩:=u e ds x z (fun n r=>i n (by rw [DataW.weightsEach,acq]; exact .inr r)) (fun q s=>c q (acB _ s));refine ⟨by simp [m],fun j A B f g=>?_⟩;cases j with
   | zero=>
    simp at f g;subst f; subst g;obtain ⟨b,k⟩:=y;exact ⟨d,w,b,k,fun n r=>i n (by rw [DataW.weightsEach,acq]; exact .inl r),fun q s=>c q (acz _ s)⟩
   | succ j=>exact o j A B (by simpa using f) (by simpa using g)
 obtain ⟨m,o⟩:=l a args.toList ds p h i c;exact ⟨by simpa using m,fun j t v f g=>⟨⟨base,k j t v f g⟩,o j t v f (by simpa using g)⟩⟩
variable {W':World}
def JB (j:laidOutB P=true) (k:Below W.heap.size W W'):∀ (a:List TypeId) (c:List Value) (ds:List (DataW H)) (p:List MemPlace),a.all (fun t=>P.readableRec t && decide (t<P.types.size))=true->DataW.TrodAll enc P W 0 (fun _=>true) true a c ds p->(∀ q ∈ p,q.block<W.heap.size) ->
  DataW.TrodAll enc P W' 0 (fun b=>decide (b<W.heap.size)) true a c ds p:=by
 intro a;induction a with
 | nil=>intro c ds p _ h _; obtain ⟨rfl,rfl,rfl⟩:=trodAll_nil h; rfl
 | cons t a l=>
  intro c ds p f h e;obtain ⟨v,c,d,ds,m,i,rfl,rfl,rfl,n,o⟩:=trodAll_cons h;rw [List.all_cons,Bool.and_eq_true,Bool.and_eq_true,decide_eq_true_eq] at f;exact ⟨m,i,Below.trod j f.1.1 f.1.2 n k fun q g=>e q (acz _ g),l c ds i f.2 o fun q g=>e q (acB _ g),rfl⟩
variable {fn:Func} {tb:TypeId}
def OP {s:ChangeSpec} {p:List MemPlace} (e:laidOutB P=true)
  (a:fn.params.toList.all (fun t=>P.readableRec t && decide (t<P.types.size))=true) (f:fn.resultTypes = #[tb]) (g:P.underlying tb=some .bool) (i:s.vars=[])
  (b:s.fn H (ds++[])={ results:=[.lit (.bool true)],args:=ds }) (j:DataW.Whole enc P fn.params.toList s.vars false W args.toList ds [] p) (k:DataW.TrodAll enc P W 0 (fun _=>true) true fn.params.toList args.toList ds p) (c:∀ q ∈ p,q.block<W.heap.size) (d:Kp [] W W') :
  s.post enc P fn false true false false W args (.bool true) W':=by
 refine ⟨ds,[],p,[],p,[],j,?_,?_,?_,d.below.frame _,fun h=>by cases h⟩
 ·rw [b,f];exact trodAll_mk1 ⟨1,by simp [DataW.trod,Value.cells,g]⟩
 ·rw [b];exact JB e d.below _ _ _ _ a k c
 rw [b,i]; rfl
theorem Pz {C:Checked} {os:Os} {f:FuncId} {s:ChangeSpec} {b:List PathCond} (I:ownKnob C.prog.godebug=none) (c:os.Started) (l:C.prog.inits.idxOf? f=none) (J:C.prog.funcs[f]? = some fn)
  (g:∃ (w:World) (a:Tape) (i:Input),w.os=os/\(w.forCall a i).Shaped C.prog/\i.vars=[]/\Input.okWide C.prog (w.forCall a i) .any w.heap.size f i /\
   s.pre6 enc C.prog fn b false (w.forCall a i).memory i.args/\({}:Assume).holds C.prog (lone (Frame.enter C.prog f i.args .normal) [] (w.forCall a i)))
  (Y:laidOutB C.prog=true) (u:fn.params.toList.all (fun t=>C.prog.readableRec t && decide (t<C.prog.types.size))=true) (Z:fn.resultTypes = #[tb]) (P:C.prog.underlying tb=some .bool) (F:s.vars=[])
  (hs:∀ ds:List (DataW H),ds.length=fn.params.size->s.fn H ds={ results:=[.lit (.bool true)],args:=ds })
  (K:∀ (W:World) (args:Array Value),args.size=fn.params.toList.length->(∀ (j:Nat) t v,fn.params.toList[j]? = some t->args[j]? = some v->Ar enc C.prog W t v)->jT C.prog f args W fun r W'=>r = .bool true/\Kp [] W W') :
  ReturnsInHanded {} C os f .any (s.pre6 enc C.prog fn b false) (s.post enc C.prog fn false true false false):=by
 refine returnsInHanded_of_change_sized I c l J g ?_;intro W base args ds gs G y U _ z _;have m:=U;obtain ⟨p,q,L,V,rfl,_,_⟩:=U;rw [F] at V;obtain ⟨rfl,rfl⟩:=trodVars_none V;simp only [ad8] at m z;have A:∀ x ∈ p,x.block<W.heap.size:=fun x hx=>by simpa using m.lt x hx
 have N:∀ n ∈ DataW.weightsEach C.prog fn.params.toList ds,n<=140737488351232:=fun n hn=>by
  have B:n ∈ DataW.weightsEach C.prog (fn.params.toList++s.plain.varTypes C.prog) ds:=by
   have:∀ (k O:List TypeId) (ds:List (DataW H)),n ∈ DataW.weightsEach C.prog k ds->n ∈ DataW.weightsEach C.prog (k++O) ds:=by
    intro k;induction k with
    | nil=>intro O ds h; simp [DataW.weightsEach] at h
    | cons t k X=>
     intro O ds h;cases ds with
     | nil=>simp [DataW.weightsEach] at h
     | cons d ds=>
      rw [DataW.weightsEach,acq] at h;rw [List.cons_append,DataW.weightsEach,acq];grind
   grind
  exact acx (List.all_eq_true.1 z n B)
 obtain ⟨o,Q⟩:=SH (fun j t v ht F=>y j t v (by simpa using ht) F) L N A;have S:ds.length=fn.params.size:=by
  have:∀ (k:List TypeId) (D:List Value) (ds:List (DataW H)) (p:List MemPlace),DataW.TrodAll enc C.prog W 0 (fun _=>true) true k D ds p->ds.length=k.length:=by
   intro k;induction k with
   | nil=>intro D ds p h; obtain ⟨_,rfl,_⟩:=trodAll_nil h; rfl
   | cons t k X=>intro D ds p h; obtain ⟨v,D,d,ds,p1,p2,rfl,rfl,rfl,_,h2⟩:=trodAll_cons h; simp [X D ds p2 h2]
  simpa using this _ _ _ _ L
 refine ajv (K W args o Q) fun e W' ⟨v,he,T,hk⟩=>⟨v,he,?_⟩;subst T;exact OP Y u Z P F (by rw [ad8]; exact hs ds S) m L A hk
end
end Go.Proofs.YticbaadnibdbkaaGreat
namespace Go.Proofs.YticbaadnibdbkaaGreat
open Go.RowKit Go.ChangeShapes Go.WideShapes
def MC:ownKnob Tryz.prog.godebug=none:=bN
def PS:laidOutB Tryz.prog=true:=bN
def aiW:Tr Tryz.prog (ak tyT) 35 (.nm .command):=Tr.struct (ss:=[.int,.int,.int,.int,.int,.int,(.lst .int),.str]) Tryz.underlying35 bN (fun a h=>by
 obtain ⟨y0,j,rfl,b,k,rfl,c,l,rfl,d,m,rfl,e,n,rfl,f,o,rfl,g,p,rfl,i,q,rfl,rfl⟩:=h;exact ⟨⟨y0,b,c,d,e,f,g,i⟩,rfl⟩) (mi.cons (Tr.int Tryz.underlying3) rfl bN (mi.cons (Tr.int Tryz.underlying3) rfl bN (mi.cons (Tr.int Tryz.underlying3) rfl bN (mi.cons (Tr.int Tryz.underlying3) rfl bN (mi.cons (Tr.int Tryz.underlying3) rfl bN (mi.cons (Tr.int Tryz.underlying3) rfl bN (mi.cons (Tr.list Tryz.underlying33 bN bN (Tr.int Tryz.underlying3)) rfl bN (mi.cons (Tr.str Tryz.underlying9) rfl bN (mi.nil)))))))))
def agu:Tr Tryz.prog (ak tyT) 52 (.nm .entry):=Tr.struct (ss:=[.int,(.lst .u8)]) Tryz.underlying52 bN (fun a h=>by
 obtain ⟨y0,c,rfl,b,d,rfl,rfl⟩:=h;exact ⟨⟨y0,b⟩,rfl⟩) (mi.cons (Tr.int Tryz.underlying3) rfl bN (mi.cons (Tr.list Tryz.underlying50 bN bN (Tr.u8 Tryz.underlying5)) rfl bN (mi.nil)))
def ahd:Tr Tryz.prog (ak tyT) 40 (.nm .letter):=Tr.struct (ss:=[.int,.int,.int,.int,.int,.int,.int,.int,.bool,(.lst (.nm .entry))]) Tryz.underlying40 bN (fun a h=>by
 obtain ⟨y0,l,rfl,b,m,rfl,c,n,rfl,d,o,rfl,e,p,rfl,f,q,rfl,g,r,rfl,i,s,rfl,j,t,rfl,k,u,rfl,rfl⟩:=h;exact ⟨⟨y0,b,c,d,e,f,g,i,j,k⟩,rfl⟩) (mi.cons (Tr.int Tryz.underlying3) rfl bN (mi.cons (Tr.int Tryz.underlying3) rfl bN (mi.cons (Tr.int Tryz.underlying3) rfl bN (mi.cons (Tr.int Tryz.underlying3) rfl bN (mi.cons (Tr.int Tryz.underlying3) rfl bN (mi.cons (Tr.int Tryz.underlying3) rfl bN (mi.cons (Tr.int Tryz.underlying3) rfl bN (mi.cons (Tr.int Tryz.underlying3) rfl bN (mi.cons (Tr.bool Tryz.underlying4) rfl bN (mi.cons (Tr.list Tryz.underlying38 bN bN (agu)) rfl bN (mi.nil)))))))))))
def ahS:Tr Tryz.prog (ak tyT) 60 (.nm .nop):=Tr.struct (ss:=[.u8,.int,(.nm .letter),(.nm .command)]) Tryz.underlying60 bN (fun a h=>by
 obtain ⟨y0,e,rfl,b,f,rfl,c,g,rfl,d,i,rfl,rfl⟩:=h;exact ⟨⟨y0,b,c,d⟩,rfl⟩) (mi.cons (Tr.u8 Tryz.underlying5) rfl bN (mi.cons (Tr.int Tryz.underlying3) rfl bN (mi.cons (ahd) rfl bN (mi.cons (aiW) rfl bN (mi.nil)))))
set_option maxRecDepth 100000 in
def tF (os:Os) (a:os.Started) (H:Type) (enc:TypeId × Value->H) :
  ReturnsInHanded {} Tryz.checked os 9 .any (Rows.nodeRolesSpec.pre6 enc Tryz.prog Tryz.f9 Rows.nodeRolesRow.domain false) (Rows.nodeRolesSpec.post enc Tryz.prog Tryz.f9 false true false false):=by
 refine Pz (C:=Tryz.checked) MC a bN Tryz.func9 (ChangeSpec.witness6 (enc:=enc) (C:=Tryz.checked) false ⟨#[],#[.slice none 0 0],[]⟩ 8 bN bN bN bN) PS bN bN Tryz.underlying4 rfl (fun b h=>?_) ?_
 ·match b,h with
  | [g],_=>rfl
 intro W args c d;obtain ⟨l⟩:=args;match l,c with
 | [i],_=>
  obtain ⟨e,f⟩:=Ar.list (shp:=ak tyT) (d 0 54 _ rfl rfl) Tryz.underlying54 (Tr.list Tryz.underlying54 bN bN (ahS));exact Tn (Sb e) rfl (.cons f .nil)
set_option maxHeartbeats 40000000 in
def qG:joinedFacts Tryz.checked.prog 9 Tryz.f9 Rows.nodeRolesSpec Rows.nodeRolesRow=true:=by
 unfold joinedFacts;repeat' with_reducible refine Bool.and_eq_true_iff.2 ⟨?_,?_⟩
 all_goals as_aux_lemma=>kernel_rfl
theorem nodeRoles_holds:Rows.NodeRolesSaid:=
 OpenClaim.holds_of_wide 9 Tryz.f9 rfl rfl rfl rfl rfl rfl rfl ⟨rfl,rfl,rfl,rfl,rfl⟩ rfl rfl rfl rfl rfl bN Tryz.func9 qG
  (acx bN) (by unfold Func.isWrapper; first | (rw [if_pos (by decide +kernel)]; kernel_rfl) | (rw [if_neg (by decide +kernel)]; exact ⟨rfl,rfl⟩))
  (fun os a H b _=>tF os a H b)
