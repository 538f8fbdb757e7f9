/- What leads to the law, part 2. Conditions: each lemma's own. -/
import Derived.DeepKeys
import Derived.Laws.CopyRow
import Derived.Laws.IdiomStrings
import Derived.MapFrom
import Derived.MapKept
import Derived.Test.YtoecbhljidgajaaGreatNPM1
set_option linter.unusedVariables false
set_option linter.unusedSimpArgs false
set_option maxHeartbeats 2000000
set_option linter.defProp false
open List (flatten_cons getD_eq_getElem?_getD length_drop range range' toArray)
open UInt8 (ofNat toNat_div)
namespace Go.Proofs.YtoecbhljidgajaaGreat
open Go.RowKit
def E9:=@Nat.mod_eq_of_lt
def L5:=@Nat.lt_of_le_of_lt
def O4:=@Nat.div_le_self
def G3:=@Int.toNat_natCast
def G8:=@Nat.le_of_ble_eq_true
def X7:=@BitVec.ofInt_natCast
def Q7:=@BitVec.toNat_ofNat
def O3:=@Nat.or_lt_two_pow
def y6:=@Int.eq_ofNat_of_zero_le
def L1:=@Int.le_trans
def v8:=@List.mem_singleton_self
def F6:=@Nat.mod_lt
def T5:=@Nat.le_of_lt
def J3:=@Nat.mul_le_mul_right
def D0:=@List.mem_singleton
def sh:=@List.length_take
def M6:=@Nat.add_zero
def I0:=@Option.map_eq_some_iff
def C5:=@List.mem_of_getElem?
def I1:=@List.getElem_mem
def M5:=@Go.heap_alloc_new
def C6:=@of_decide_eq_true
def O7:=@Nat.zero_mul
def V9:=@List.drop_zero
def Q6:=@Go.MapKept.run_getObj_map
def J1:=@List.drop_drop
def E7:=@List.take_append_drop
def O8:=@Nat.mul_one
def A1:=@List.append_nil
def K9:=@List.length_map
def J4:=@Array.ext'
def J9:=@List.append_assoc
def G5:=@List.getElem?_set_self
def I3:=@Go.setRow_heap
def R1:=@List.take_zero
def Q9:=@List.nil_append
def M1:=@List.drop_of_length_le
def T3:=@List.take_take
def I2:=@Nat.min_eq_left
def Q8:=@List.flatMap_append
def S8:=@Nat.mul_le_mul_left
def zB:AV->Value->Bool
 |.int n,.int .i64 m=>(n=m)&&(n=0)
 |.u8 b,.int .u8 m=>(m=0)&&(b=0)
 |.u64 n,.int .u64 m=>(m=0)&&(n=0)
 |.bool e,.bool false=>!e.val
 |.str ⟨[]⟩,.string s=>s.data.toList.isEmpty
 |.em true,.slice none 0 0=>true
 |.fz _ a,.slice none 0 0=>a.isEmpty
 |.li _ a,.slice none 0 0=>a.isEmpty
 |.np,.pointer none=>true
 |.nf,.nilFunc=>true
 |.dead,v=>v.oneCell'
 |.xx (.er true) [],.nilIface=>true
 |.xx (.w n) [],.int .u32 m=>(m=0)&&(n=0)
 |_,_=>false
def DT:List AV->List Value->Bool
 |[],[]=>true
 |a::r,v::b=>zB a v&&DT r b
 |_,_=>false
def UU(P:Program)(g:TypeId->Option (List LK)):List Go.Field->Nat->Option (List LK)
 |[],_=>some []
 |f::r,o=>match g f.type with
  |some a=>match (f.offset=o)&&(P.cellsOf f.type=a)&&(f.name != "_"),UU P g r (o+a)with
   |true,some l=>some (a++l)
   |_,_=>none
  |none=>none
def Ut(P:Program):Nat->TypeId->Option (List LK)
 |0,_=>none
 |d+1,t=>match P.underlying t with
  |some (.int k)=>some [.i k]
  |some .bool=>some [.b]
  |some .string=>some [.s]
  |some (.struct F)=>match UU P (Ut P d) F.toList 0 with
   |some a=>match decide (P.cellsOf t=a)with
    |true=>some a
    |false=>none
   |none=>none
  |_=>none
def Y6(P:Program)(t:TypeId)(a:List LK):=(Ut P 8 t=some a)&&P.keyTypeAt 8 t&& !P.eqGuardType P.depth t
def EqT(P:Program)(t:TypeId)(z:List AV):=∀a,P1 z=some a->Y6 P t a=true
def aqe(P:Program)(F:Array Go.Field)(t:TypeId):=∀i,Qh t i abn=true->∃f d,F[i]? =some f/\P.underlying f.type=some d/\mn d=false
def ah7(P:Program)(shp:TypeId->Option Sh)(t:TypeId)(b:TI):=
 ((P.info? t).map (·.size)=some b.size/\∃a:List Value,((P.info? t).bind (·.zero)).map Value.cells=some a.toArray/\DT b.zero a=true)/\
 match b.k with
 |.i k=>P.underlying t=some (.int k)
 |.bool=>P.underlying t=some .bool
 |.str=>P.underlying t=some .string
 |.sl e c=>P.underlying t=some (.slice e)/\∀s,c=some s->shp e=some s/\(∃z:List Value,(P.info? e).map (λi=>(i.zero.map Value.cells,i.size,i.bytes))=some (some z.toArray,s.size,s.bytes)/\DT (cellsOf s (c4 s)) z=true)/\(s=.u8->P.underlying e=some (.int .u8)/\(P.info? e).bind (·.zero)=some (.int .u8 0))
 |.st g=>∃F:Array Go.Field,P.underlying t=some (.struct F)/\F.toList.mapM (λf=>(P.info? f.type).map λi=>(f.offset,i.size))=some g/\(∀q∈g,0<q.2)/\EqT P t b.zero/\aqe P F t
 |.ar n e=>P.underlying t=some (.array n e)
 |.W4=>P.underlying t=some (.interface (P.methodsAt t))
 |.ptr=>∃e,P.underlying t=some (.pointer e)
 |.ms k e=>P.underlying t=some (.map k e)/\P.underlying k=some .string/\(P.info? e).bind (·.zero)=some (.int .i64 0)
 |.mg k e z=>P.underlying t=some (.map k e)/\P.underlying k=some (.int .i64)/\(P.info? e).bind (·.zero)=some (.agg (z.map KC.val).toArray)
 |.mp k e c=>P.underlying t=some (.map k e)/\P.underlying k=some (.int .i64)/\(∀s,c=some s->∃z a,(P.info? e).bind (·.zero)=some z/\DT (cellsOf s (c4 s)) a=true/\((s.rT=true/\z=.agg a.toArray)\/(s.rT=false/\a=[z])))/\(c=none->(P.info? e).bind (·.zero)=some .nilFunc)
 |_=>∃d,P.underlying t=some d/\mn d=false
def bG(P:Program)(shp:TypeId->Option Sh)(T:List (Nat×TI)):=∀t a,bt T t=some a->ah7 P shp t a
section
variable{c:Cx}{ρ:List RE}
def Ms{a:UInt8}{b:Nat}:Pd c (.u8 (ofNat (a.toNat/2^b))) (.int .u8 (a.toNat/2^b:Nat)):=by
 have e:a.toNat/2^b=(ofNat (a.toNat/2^b)).toNat:=by
  rw[J7,E9 (L5 (O4 _ _) a.toNat_lt)]
 rw[show (a.toNat/2^b:Nat)=((ofNat (a.toNat/2^b)).toNat:Int)from o9 _ e];exact Pd.u8
variable{a:AV}
def aa3{v:Value}(h:zB a v=true):Rd c ρ a v:=by
 unfold zB at h;split at h
 .simp at h;obtain⟨rfl,rfl⟩:=h;exact Pd.int ⟨N,N⟩
 .simp at h;obtain⟨rfl,rfl⟩:=h;exact Pd.u8
 .simp at h;obtain⟨rfl,rfl⟩:=h;exact Pd.u64 N
 .rename_i e;have:e.val=false:=by simpa using h
  rw[<-this];exact Pd.bool
 .rename_i s;have:s=⟨#[]⟩:=by
   have d:s.data.toList=[]:=by simpa using h
   have f:s.data= #[]:=by grind
   cases s;simp_all
  subst this;exact Pd.str (s:=⟨[]⟩) aa
 .exact Pd.em rfl
 .rename_i s xs;have:xs=[]:=by simpa using h
  subst this;exact Pd.fz (xs:=([]:List (l7 s))) (cells:=[]) (tw _) aa aa .nil (.inl rfl)
 .rename_i b xs;have:xs=[]:=by simpa using h
  subst this;exact Pd.li (nw:=b) (xs:=[]) (k:=0) (tw _) (H4 _) aa aa (.inl rfl)
 .rfl
 .rfl
 .exact h
 .exact⟨[],.nil,rfl,.inl ⟨rfl,rfl⟩⟩
 .simp at h;obtain⟨rfl,rfl⟩:=h;exact⟨[],.nil,rfl,am,rfl⟩
 cases h
def lJ:∀{b:List AV} {d:List Value},DT b d=true->hY (Rd c ρ) b d
 |[],[],_=>.nil
 |a::r,v::d,h=>by
  simp[DT]at h;exact .cons (aa3 h.1) (lJ h.2)
def ac0{v:Value}(h:cAV v=some a):Rd c ρ a v:=by
 unfold cAV at h;split at h
 .rename_i n;cases b:((-9223372036854775808<=n)&&(n<=9223372036854775807))<;>rw[b]at h
  .cases h
  cases h;simp at b;exact Pd.int b
 .rename_i n;cases b:((0<=n)&&(n<256))<;>rw[b]at h
  .cases h
  cases h;simp at b;have e:n=((ofNat n.toNat).toNat:Int):=by rw[J7];omega
  show Pd c _ _;rw[e,G3];have d:ofNat (ofNat n.toNat).toNat=ofNat n.toNat:=UInt8.ofNat_toNat;rw[d];exact Pd.u8
 .rename_i n;cases b:((0<=n)&&(n<18446744073709551616))<;>rw[b]at h
  .cases h
  cases h;simp at b;have e:n=n.toNat:=by omega
  show Pd c _ _;rw[e,G3];exact Pd.u64 N
 .rename_i n;cases b:((0<=n)&&(n<4294967296))<;>rw[b]at h
  .cases h
  cases h;simp at b;have e:(n.toNat:Nat)=n:=by omega
  exact⟨[],.nil,rfl,N,by rw[e]⟩
 .cases h;exact Pd.bool (e:=.lit _)
 .rename_i s;cases b:Nat.ble s.data.toList 140737488355328<;>rw[b]at h
  .cases h
  cases h;have:=G8 b;have e:=Pd.str (c:=c) (s:=⟨s.data.toList⟩) this;have d:(⟨s.data.toList⟩:n9).val=.string s:=by simp[n9.val]
  rw[d]at e;exact e
 .cases h;exact Pd.em rfl
 .cases h;rfl
 .cases h;exact⟨[],.nil,rfl,.inl ⟨rfl,rfl⟩⟩
 .cases h;rfl
 cases h
variable{tv:TV}{F:Fr}
def fS{fr:lg}(h:r7 c ρ fr F){i:Nat}(b:l6 fr i=some tv):∃v,look F i=some v/\Rt c ρ tv v:=by
 induction h with
 |nil=>cases b
 |@cons p q fr F d _ e=>
  let⟨f,g⟩:=q;unfold l6 at b;unfold look;grind
def az{fr:lg}(h:r7 c ρ fr F){x:Operand}(b:ez fr x=some tv):∃v,ev F x=some v/\Rt c ρ tv v:=by
 cases x with
 |tmp i=>exact fS h b
 |const v=>
  simp[ez]at b;split at b
  next a d=>cases b;exact⟨v,rfl,ac0 d⟩
  cases b
 |global g=>cases b
 |func f=>cases b;exact⟨_,rfl,[],[],.nil,.nil,rfl⟩
def nY{fr:lg}{F:Fr}(h:r7 c ρ fr F):∀{f:List Operand} {d:List oh},Fh fr f=some d->∃e,UL F f=some e/\hY (eh c ρ) d e
 |[],d,b=>by cases b;exact⟨[],rfl,.nil⟩
 |x::r,d,b=>by
  simp[Fh]at b;split at b
  next a l g i=>cases b;let⟨v,j,k⟩:=az h g;let⟨e,m,n⟩:=nY h i;exact⟨v::e,by simp[UL,j,m],.cons k n⟩
  cases b
def lW{fr:lg}{F:Fr}(h:r7 c ρ fr F):∀{f:List (Nat×Operand)} {d:List (Nat×oh)},zq fr f=some d->∃e,Qk F f=some e/\hY (λp q=>p.1=q.1/\eh c ρ p.2 q.2) d e
 |[],d,b=>by cases b;exact⟨[],rfl,.nil⟩
 |(i,x)::r,d,b=>by
  simp[zq]at b;split at b
  next a l g j=>cases b;let⟨v,k,m⟩:=az h g;let⟨e,n,o⟩:=lW h j;exact⟨(i,v)::e,by simp[Qk,k,n],.cons ⟨rfl,m⟩ o⟩
  cases b
end
section
variable{P:Program}{n:Nat}{fr:Fr}{w:World}{x y:Operand}{ty t t':TypeId}
theorem xD z(h:0<=z):IntKind.u64.wrap z=(z.toNat%18446744073709551616:Nat):=by
 simp only[IntKind.wrap,IntKind.bits,IntKind.signed];simp;omega
variable{b a:Nat}
def R.Vm(c:ev fr x=some (.int .u64 a))(d:ev fr y=some (.int .u64 b)):aW P n fr w (.binOp .add t x y t') ty (.int .u64 (((a+b)%18446744073709551616:Nat):Int)) w:=by
 have:=R.ZD (P:=P) (n:=n) (w:=w) (ty:=ty) (t:=t) (t':=t') c d;rw[xD _ N]at this;grind
variable{kc:IntKind}
def R.Hs(d:ev fr x=some (.int .u64 a))(f:ev fr y=some (.int kc b))(g:b<=64):aW P n fr w (.binOp .shl t x y t') ty (.int .u64 (((a*2^b)%18446744073709551616:Nat):Int)) w:=λ_ _ _ _ _ c=>by
 have e:IntKind.u64.wrap (a*2^b)=(((a*2^b)%18446744073709551616:Nat):Int):=by grind[xD]
 have h:Op.shift .shl .u64 a kc b=pure (.int .u64 (((a*2^b)%18446744073709551616:Nat):Int)):=by simp_all
 simp[execOp,c.ev d,c.ev f,binOp_shl];rfl
def R.adp(i:ev fr x=some (.int .u64 a))(j:ev fr y=some (.int .u64 b))(d:a<18446744073709551616)(f:b<18446744073709551616):aW P n fr w (.binOp .or t x y t') ty (.int .u64 (a|||b:Nat)) w:=λ_ _ _ _ _ g=>by
 have e:bits .or .u64 a b=(a|||b:Nat):=by
  have h:∀c:Nat,(BitVec.ofInt 64 c)=BitVec.ofNat 64 c:=λc=>by rw[X7]
  show IntKind.u64.wrap ((BitVec.ofInt 64 a|||BitVec.ofInt 64 b).toNat:Int)=_;rw[h,h,BitVec.toNat_or,Q7,Q7,E9 (by simpa using d),E9 (by simpa using f)];exact wrap_u64 (O3 (n:=64) d f)
 simp[execOp,g.ev i,g.ev j,eqGuard_or,binOp_or,intBits_or,e]
variable{b a:Int}
def yH(h:0<=b)(c:W b):0<=lZ a b/\lZ a b<=b:=by
 obtain⟨b,rfl⟩:=y6 h;unfold lZ;refine⟨J8 _,?_⟩;rw[BitVec.toNat_and,X7,Q7,E9 (by have:=c.2;omega)];exact Int.ofNat_le.2 Nat.and_le_right
def R.aqN(f:ev fr x=some (.int .i64 a))(g:ev fr y=some (.int .i64 b))(i:0<=b)(c:W b):aW P n fr w (.binOp .and t x y t') ty (.int .i64 (lZ a b)) w:=λ_ _ _ _ _ d=>by
 have e:bits .and .i64 a b=lZ a b:=by
  have h:=yH (a:=a) i c;have:=c.2;exact W.wrap ⟨L1 am h.1,L1 h.2 this⟩
 simp[execOp,d.ev f,d.ev g,eqGuard_and,binOp_and,intBits_and,e]
def R.orI(j:ev fr x=some (.int .i64 a))(k:ev fr y=some (.int .i64 b))(l:0<=a)(m:0<=b)(o:W a)(p:W b):aW P n fr w (.binOp .or t x y t') ty (.int .i64 (Zl a b)) w/\W (Zl a b):=by
 obtain⟨a,rfl⟩:=y6 l;obtain⟨b,rfl⟩:=y6 m;have d:a<2^63:=by have:=o.2;omega
 have f:b<2^63:=by have:=p.2;omega
 have r:=O3 d f;have g:W ((a|||b:Nat):Int):=⟨N,N⟩;have e:bits .or .i64 a b=(a|||b:Nat):=by
  have h:∀c:Nat,(BitVec.ofInt 64 c)=BitVec.ofNat 64 c:=λc=>by rw[X7]
  show IntKind.i64.wrap ((BitVec.ofInt 64 a|||BitVec.ofInt 64 b).toNat:Int)=_;rw[h,h,BitVec.toNat_or,Q7,Q7,E9 N,E9 N];exact g.wrap
 have q:Zl a b=(a|||b:Nat):=by unfold Zl;simp
 rw[q];refine⟨λ_ _ _ _ _ i=>?_,g⟩;simp[execOp,i.ev j,i.ev k,eqGuard_or,binOp_or,intBits_or,e]
def R.am5{b:Nat}(d:ev fr x=some (.int .i64 a))(e:ev fr y=some (.int kc b))(h:b<=64)(f:W (a*2^b)):aW P n fr w (.binOp .shl t x y t') ty (.int .i64 (a*2^b)) w:=λ_ _ _ _ _ c=>by
 have g:Op.shift .shl .i64 a kc b=pure (.int .i64 (a*2^b)):=by
  rw[shift_shl .i64 kc a b (J8 b) (show b<=((64:Nat):Int) by omega),G3,f.wrap]
 simp only[execOp,c.ev d,c.ev e,binOp_shl,g];rfl
def R.ar7{a b:n9}(d:ev fr x=some a.val)(f:ev fr y=some b.val)(h:a.b+b.b.length<=140737488355328):aW P n fr w (.binOp .add t x y t') ty (n9.val ⟨a.b++b.b⟩) w:=λ_ _ _ _ _ c=>by
 have e:∀u v:List UInt8,(⟨u.toArray⟩:ByteArray)++⟨v.toArray⟩=⟨(u++v).toArray⟩:=λu v=>by
  apply ByteArray.ext;simp_all
 have g:∀u:List UInt8,(⟨u.toArray⟩:ByteArray).size=u:=λu=>by simp[ByteArray.size]
 have i:¬((a.b+b.b:Nat)>IntKind.i64.max):=by
  simp;omega
 simp[execOp,c.ev d,c.ev f,n9.val,eqGuard_add,binOp,Op.stringOp];simp_all
def R.apB(d:ev fr x=some (.int .i64 a))(f:ev fr y=some (.int .i64 b))(g:0<=a)(h:0<b)(i:W a):aW P n fr w (.binOp .quo t x y t') ty (.int .i64 (a.tdiv b)) w/\W (a.tdiv b):=by
 obtain⟨a,rfl⟩:=y6 g;obtain⟨b,rfl⟩:=y6 (Int.le_of_lt h);have e:(a:Int).tdiv b=(a/b:Nat):=by rw[Int.tdiv_eq_ediv_of_nonneg N];omega
 have c:W (a/b:Nat):=by
  have:=O4 a b;generalize a/b=q at*;unfold W at i⊢;omega
 exact⟨R.Ya d f N c.wrap,c⟩
def R.amZ(d:ev fr x=some (.int .i64 a))(f:ev fr y=some (.int .i64 b))(g:0<=a)(h:0<b)(i:W a):aW P n fr w (.binOp .rem t x y t') ty (.int .i64 (a.tmod b)) w/\W (a.tmod b):=by
 obtain⟨a,rfl⟩:=y6 g;obtain⟨b,rfl⟩:=y6 (Int.le_of_lt h);have e:(a:Int).tmod b=(a%b:Nat):=by rw[Int.tmod_eq_emod_of_nonneg N];omega
 have c:W (a%b:Nat):=by
  have:=Nat.mod_le a b;unfold W at i⊢;omega
 exact⟨R.Xg d f N,c⟩
end
section
variable{P:Program}{T:List (Nat×TI)}{G:Gl}{n:Nat}{F:Fr}{w:World}{x y:Operand}{ty t t':TypeId}{c:Cx}{ρ:List RE}
variable{b a:AV}{va:Value}{r:PR}{op:BinOp}
def TC(hT:bG P G.shp T){vb:Value}(m:OD T t a=true)(h:aeI op a b=some r)(d:∀p∈r.ob,p)(s:Rd c ρ a va)(u:Rd c ρ b vb)(f:ev F x=some va)(g:ev F y=some vb):
  ∃v,aW P n F w (.binOp op t x y t') ty v w/\Rt c ρ r.v v/\r.fc=[]:=by
 unfold aeI at h;split at h
 ·-- ints
  cases s with|int j=>
  cases u with|int o=>
  split at h<;>cases h
  .exact⟨_,R.lss f g,Pd.bool (e:=.lt _ _),rfl⟩
  .exact⟨_,R.leq f g,Pd.bool (e:=.le _ _),rfl⟩
  .exact⟨_,R.gtr f g,Pd.bool (e:=.lt _ _),rfl⟩
  .exact⟨_,R.geq f g,Pd.bool (e:=.le _ _),rfl⟩
  .exact⟨_,R.eql f g,Pd.bool (e:=.eq _ _),rfl⟩
  .exact⟨_,R.neq f g,Pd.bool (e:=.not (.eq _ _)),rfl⟩
  .have i:=d _ (v8 _);exact⟨_,R.add f g i,Pd.int i,rfl⟩
  .have i:=d _ (v8 _);exact⟨_,R.sub f g i,Pd.int i,rfl⟩
  .have i:=d _ (v8 _);exact⟨_,R.mul f g i,Pd.int i,rfl⟩
  .have i:=d _ A9;have l:=d _ (x9 _ (v8 _));have q:=R.apB (P:=P) (n:=n) (w:=w) (ty:=ty) (t:=t) (t':=t') f g i l j;exact⟨_,q.1,Pd.int q.2,rfl⟩
  .have i:=d _ A9;have l:=d _ (x9 _ (v8 _));have q:=R.amZ (P:=P) (n:=n) (w:=w) (ty:=ty) (t:=t) (t':=t') f g i l j;exact⟨_,q.1,Pd.int q.2,rfl⟩
  .have i:=d _ (v8 _);have l:=λz:Int=>yH (a:=z) i o;have q:=o.2;exact⟨_,R.aqN f g i o,Pd.int ⟨L1 am (l _).1,L1 (l _).2 q⟩,rfl⟩
  have i:=d _ A9;have l:=d _ (x9 _ (v8 _));have q:=R.orI (P:=P) (n:=n) (w:=w) (ty:=ty) (t:=t) (t':=t') f g i l j o;exact⟨_,q.1,Pd.int q.2,rfl⟩
 ·-- bytes
  cases s with|u8=>
  cases u with|u8=>
  split at h<;>cases h
  .exact⟨_,R.lss f g,Pd.bool (e:=.lt _ _),rfl⟩
  .exact⟨_,R.leq f g,Pd.bool (e:=.le _ _),rfl⟩
  .exact⟨_,R.gtr f g,Pd.bool (e:=.lt _ _),rfl⟩
  .exact⟨_,R.geq f g,Pd.bool (e:=.le _ _),rfl⟩
  .exact⟨_,R.eql f g,Pd.bool (e:=.eq _ _),rfl⟩
  .exact⟨_,R.neq f g,Pd.bool (e:=.not (.eq _ _)),rfl⟩
  .exact⟨_,R.ajz f g,Pd.u8,rfl⟩
  .exact⟨_,R.an7 f g,Pd.u8,rfl⟩
  .have i:=d _ (v8 _);refine⟨_,R.Xg f g i,?_,rfl⟩;rw[<-UInt8.toNat_mod];exact Pd.u8
  have i:=d _ (v8 _);refine⟨_,R.Ya f g i ?_,?_,rfl⟩
  .rw[<-toNat_div];exact Ep (UInt8.toNat_lt _)
  rw[<-toNat_div];exact Pd.u8
 .cases s with|u64 j=>
  cases u with|u64 o=>
  split at h<;>cases h
  .exact⟨_,R.lss f g,Pd.bool (e:=.lt _ _),rfl⟩
  .exact⟨_,R.leq f g,Pd.bool (e:=.le _ _),rfl⟩
  .exact⟨_,R.gtr f g,Pd.bool (e:=.lt _ _),rfl⟩
  .exact⟨_,R.geq f g,Pd.bool (e:=.le _ _),rfl⟩
  .exact⟨_,R.eql f g,Pd.bool (e:=.eq _ _),rfl⟩
  .exact⟨_,R.neq f g,Pd.bool (e:=.not (.eq _ _)),rfl⟩
  .exact⟨_,R.Vm f g,Pd.u64 (F6 _ N),rfl⟩
  .exact⟨_,R.adp f g j o,Pd.u64 (O3 (n:=64) j o),rfl⟩
  .have i:=d _ (v8 _);have l:=O4;exact⟨_,R.Ya f g i (wrap_u64 (L5 (l _ _) j)),Pd.u64 (L5 (l _ _) j),rfl⟩
  .have i:=d _ (v8 _);exact⟨_,R.Xg f g i,Pd.u64 (L5 (Nat.mod_le _ _) j),rfl⟩
  .have i:=d _ (v8 _);exact⟨_,R.Hs f g N,Pd.u64 (F6 _ N),rfl⟩
  have i:=d _ (v8 _);exact⟨_,R.Rk f g (T5 i),Pd.u64 (L5 (O4 _ _) j),rfl⟩
 .cases s with|u64 j=>
  cases u with|int o=>
  split at h<;>cases h
  .have i:=d _ A9;have l:=d _ (x9 _ (v8 _));rename_i k _ _ _;obtain⟨k,rfl⟩:=y6 i;exact⟨_,R.Hs f g N,Pd.u64 (F6 _ N),rfl⟩
  have i:=d _ A9;have l:=d _ (x9 _ (v8 _));rename_i k _ _ _;obtain⟨k,rfl⟩:=y6 i;exact⟨_,R.Rk f g (show k<=64 by omega),Pd.u64 (L5 (O4 _ _) j),rfl⟩
 .cases s with|int j=>
  cases u with|u64 o=>
  split at h<;>cases h;have i:=d _ A9;have l:=d _ (x9 _ (v8 _));exact⟨_,R.am5 f g (T5 i) l,Pd.int l,rfl⟩
 .cases s with|u8=>
  cases u with|u64 o=>
  split at h<;>cases h;have i:=d _ (v8 _);exact⟨_,R.Rk f g (T5 i),Ms,rfl⟩
 .cases s with|bool=>
  cases u with|bool=>
  have A:P.underlying t=some .bool:=by
   simp[OD]at m;split at m
   next i=>exact(hT _ _ i).2
   cases m
  split at h<;>cases h
  .exact⟨_,R.ar5 f g A,Pd.bool (e:=.beq _ _),rfl⟩
  exact⟨_,R.anT f g A,Pd.bool (e:=.not (.beq _ _)),rfl⟩
 .cases s with|str j=>
  cases u with|str o=>
  split at h<;>cases h
  .exact⟨_,R.apR f g,Pd.bool (e:=.seq _ _),rfl⟩
  .exact⟨_,R.aq8 f g,Pd.bool (e:=.not (.seq _ _)),rfl⟩
  have i:=d _ (v8 _);exact⟨_,R.ar7 f g i,Pd.str (by rw[s8];exact i),rfl⟩
 .cases s with|em j=>
  cases u with|@em _ B o=>
  have A:∃e,P.underlying t=some (.slice e):=by
   simp[OD]at m;split at m
   next e _ _ _ i=>exact⟨_,(hT _ _ i).2.1⟩
   cases m
  let⟨e,A⟩:=A;obtain rfl:B=none:=Option.isNone_iff_eq_none.1 o.symm;subst j;split at h<;>cases h
  .exact⟨_,R.TZ f g A,Pd.bool (e:=.lit _),rfl⟩
  exact⟨_,R.Uy f g A,Pd.bool (e:=.lit _),rfl⟩
 cases h
def abM(a b:Int):W (jQ a b):=by
 unfold jQ;rw[IntKind.wrap_i64];constructor<;>omega
def YW{a b:Int}(h:W (a-b)):jQ a b=a-b:=h.wrap
def afv(a b:Int):W (adH a b):=by
 unfold adH;rw[IntKind.wrap_i64];constructor<;>omega
def Nt{m:ic}(hT:bG P G.shp T){vb:Value}(d:OD T t a=true)(h:ad_ m op a b=some r)(e:∀p∈r.ob,p)(f:Rd c ρ a va)(g:Rd c ρ b vb)(i:ev F x=some va)(j:ev F y=some vb):
  ∃v,aW P n F w (.binOp op t x y t') ty v w/\Rt c ρ r.v v/\r.fc=[]:=by
 unfold ad_ at h;split at h
 .cases h;cases f with|int k=>
  cases g with|int l=>
  exact⟨_,R.ak5 i j,Pd.int (abM _ _),rfl⟩
 .cases h;cases f with|int k=>
  cases g with|int l=>
  exact⟨_,R.ZD i j,Pd.int (afv _ _),rfl⟩
 exact TC hT d h e f g i j
end
section
variable{G:Gl}{ρ:List RE}{H:AH}{w:World}
variable{t:TypeId}
theorem cS(f:pe G ρ H w){id:Nat}{s:Sh}{c:List (l7 s)}(h:l9 H id=.row t s c):(ρ[id]? =some .emp/\c=[])\/
  ∃g b a d,ρ[id]? =some (.row g b c s.size)/\w.heap[g]? =some (.cells (toArray (a++d)) t (0,0))/\r6 (cx G ρ w) (c.flatMap (cellsOf s)) a/\(a++d).length=b*s.size/\c<=b/\b<=maxLen:=by
 let⟨r,i,k,l,e⟩:=f.at_ (cC h aa);rcases e with⟨rfl,e⟩|⟨g,b,a,d,rfl,j⟩
 .grind
 exact .inr ⟨g,b,a,d,i,j⟩
def fu(b:pe G ρ H w){id:Nat}{s:Sh}{a:List (l7 s)}(c:l9 H id=.row t s a):G.shp t=some s/\a*s.bytes<=140737488355328:=by
 let⟨r,f,d,e,g⟩:=b.at_ (cC c aa);exact⟨d,e⟩
def dW{g:Nat}{cells sp:List Value}{f:Nat×Nat}(h:w.heap[g]? =some (.cells (toArray (cells++sp)) t f)):j0 w ⟨g,0,none⟩ cells:=λj v a=>by
 rw[add_lit,A3,cell_of_row w g j _ t f h];grind
def j0.drop{a:Addr}{b:List Value}(h:j0 w a b)i:=h.shift i
def c_{c:Cx}{s:Sh}{b:List (l7 s)}{a:List Value}(h:r6 c (b.flatMap (cellsOf s)) a)i:r6 c ((b.drop i).flatMap (cellsOf s)) (a.drop (i*s.size)):=by
 rw[<-rW];exact h.drop _
def cz{c:Cx}{s:Sh}{b:List (l7 s)}{a:List Value}(h:r6 c (b.flatMap (cellsOf s)) a)i:r6 c ((b.take i).flatMap (cellsOf s)) (a.take (i*s.size)):=by
 rw[<-xX];exact h.take _
structure H8(c:Cx)(s:Sh)(xs:List (l7 s))(v:Value):Prop where
 ex:∃a k cells,v=.slice a xs.length k/\xs.length<=k/\k<=maxLen/\r6 c (xs.flatMap (cellsOf s)) cells/\(xs=[]\/∃A,a=some A/\A.block<c.w.heap.size/\j0 c.w A cells)
 le:xs.length*s.bytes<=140737488355328
def Pd.aao{c:Cx}{s:Sh}{d:List (l7 s)}{v:Value}(h:Pd c (.fz s d) v)(f:∀b,c.S b->b<c.w.heap.size):H8 c s d v:=by
 cases h with
 |fz g i j k e=>
  refine⟨⟨_,_,_,rfl,g,i,k,?_⟩,j⟩;rcases e with e|⟨A,l,a,m⟩
  .grind
  exact .inr ⟨A,l,f _ a.1,m⟩
def rZ{a b m M:Nat}(h:b*m<=M)(k:a<=b):=zc (J3 _ k) h
variable{a:AV}
def IX(k:pe G ρ H w){s:Sh}{r:List (l7 s)}{v:Value}(e:a.vw H=.fz s r)(h:Rd (cx G ρ w) ρ a v):H8 (cx G ρ w) s r v:=by
 cases a with
 |fz u o=>simp only[AV.vw]at e;cases e;exact Pd.aao h λb A=>A.1
 |own id=>
  simp[AV.vw]at e;split at e
  .rename_i t u o m;cases e;have f:=(fu k m).2;rcases cS k m with⟨x,rfl⟩|⟨g,n,c,B,l,p,q,C,y,z⟩
   .rcases h with⟨_,_,_,_,h,_⟩|⟨_,a,rfl⟩
    .grind
    exact⟨⟨a,0,[],rfl,tw _,by simp[maxLen],.nil,.inl rfl⟩,f⟩
   rcases h with⟨_,_,_,_,h,rfl⟩|⟨h,_⟩
   .rw[l]at h;cases h;exact⟨⟨_,_,c,rfl,y,z,q,.inr ⟨_,rfl,(k.u0 _ _ g l rfl).2.1,dW p⟩⟩,f⟩
   grind
  cases e
 |sub id d len=>
  simp[AV.vw]at e;split at e
  .rename_i t u o m;cases e;have f:=(fu k m).2;have i:((o.drop d).take len)*s.bytes<=140737488355328:=rZ f (by simp;omega);rcases cS k m with⟨x,rfl⟩|⟨g,n,c,B,l,p,q,C,y,z⟩
   .rcases h with⟨_,_,_,_,h,_⟩|⟨_,rfl,rfl,a,rfl⟩
    .rw[x]at h;cases h
    exact⟨⟨a,0,[],rfl,aa,by simp[maxLen],.nil,.inl rfl⟩,i⟩
   rcases h with⟨_,_,_,_,h,D,rfl⟩|⟨h,_⟩
   .rw[l]at h;cases h;have j:((o.drop d).take len)=len:=by simp;omega
    refine⟨⟨some ⟨g,d*s.size,none⟩,n-d,(c.drop (d*s.size)).take (len*s.size),by rw[j],by rw[j];omega,N,cz (c_ q d) len,.inr ⟨_,rfl,(k.u0 _ _ g l rfl).2.1,?_⟩⟩,i⟩;have:=((dW p).drop (d*s.size)).take (len*s.size);rwa[add_lit,A3]at this
   rw[l]at h;cases h
  cases e
 |_=>simp[AV.vw]at e
def pP(u:pe G ρ H w){c:Cx}(m:(cx G ρ w).le c)(x:c.w=w){v:Value}(h:Rd (cx G ρ w) ρ a v)
  (A:∀g f len z,(∃id,(a=.own id\/∃o l,a=.sub id o l)/\ρ[id]? =some (.row g f len z))->c.S g){s:Sh}{xs:List (l7 s)}(d:a.vw H=.fz s xs):Pd c (.fz s xs) v:=by
 cases a with
 |fz B n=>simp only[AV.vw]at d;cases d;exact Pd.ed h m
 |own id=>
  simp[AV.vw]at d;split at d
  .rename_i t B n p;cases d;have e:=(fu u p);rcases cS u p with⟨C,rfl⟩|⟨g,f,cells,I,j,q,y,J,D,F⟩
   .rcases h with⟨_,_,_,_,h,_⟩|⟨_,a,rfl⟩
    .grind
    exact .fz (xs:=([]:List (l7 s))) (cells:=[]) (tw _) aa aa .nil (.inl rfl)
   rcases h with⟨_,_,_,_,h,rfl⟩|⟨h,_⟩
   .rw[j]at h;cases h;refine .fz D F e.2 (y.ed m) (.inr ⟨_,rfl,⟨A g _ _ _ ⟨id,.inl rfl,j⟩,.inr ⟨_,t,(0,0),by rw[x];exact q,by rw[m.shp];exact e.1,λ_=>rfl⟩⟩,by rw[x];exact dW q⟩)
   grind
  cases d
 |sub id b len=>
  simp[AV.vw]at d;split at d
  .rename_i t B n p;cases d;have e:=(fu u p);have r:((n.drop b).take len)*s.bytes<=140737488355328:=rZ e.2 (by simp;omega);rcases cS u p with⟨C,rfl⟩|⟨g,f,cells,I,j,q,y,J,D,F⟩
   .rcases h with⟨_,_,_,_,h,_⟩|⟨_,rfl,rfl,a,rfl⟩
    .rw[C]at h;cases h
    exact .fz (xs:=([]:List (l7 s))) (cells:=[]) (tw _) aa aa .nil (.inl rfl)
   rcases h with⟨_,_,_,_,h,K,rfl⟩|⟨h,_⟩
   .rw[j]at h;cases h;have i:((n.drop b).take len)=len:=by simp;omega
    have:=Pd.fz (c:=c) (s:=s) (xs:=(n.drop b).take len) (a:=some ⟨g,b*s.size,none⟩) (k:=f-b) (cells:=(cells.drop (b*s.size)).take (len*s.size)) (by rw[i];omega) N r ((cz (c_ y b) len).ed m) (.inr ⟨_,rfl,⟨A g _ _ _ ⟨id,.inr ⟨_,_,rfl⟩,j⟩,.inr ⟨_,t,(0,0),by rw[x];exact q,by rw[m.shp];exact e.1,λ_=>rfl⟩⟩,by
     rw[x];have:=((dW q).drop (b*s.size)).take (len*s.size);rwa[add_lit,A3]at this⟩)
    rwa[i]at this
   rw[j]at h;cases h
  cases d
 |_=>simp[AV.vw]at d
def Pd.qZ{c:Cx}{v:Value}(h:Pd c a v):∀p∈a.ok,p:=by
 intro p d;cases h;case int b=>rw[D0.1 d];exact b
 case u64 b=>rw[D0.1 d];exact b
 case str b=>rw[D0.1 d];exact b
 case fz b _ _ _ _=>rw[D0.1 d];assumption
 all_goals cases d
def r6.qZ{c:Cx}:∀{b:List AV} {e:List Value},r6 c b e->∀p∈Mk b,p
 |[],_,h=>by cases h;simp[Mk]
 |_::_,_,h=>by
  cases h with
  |cons f g=>
   intro p d;simp[Mk]at d;exact d.elim (f.qZ p) (g.qZ p)
def Rd.qZ{c:Cx}{a:AV}{v:Value}(h:Rd c ρ a v):∀p∈a.ok,p:=by
 cases a;case int=>exact Pd.qZ h
 case u64=>exact Pd.qZ h
 case str=>exact Pd.qZ h
 case fz=>exact Pd.qZ h
 all_goals simp[AV.ok]
def N2.qZ{c:Cx}{b:List AV}{e:List Value}(h:hY (Rd c ρ) b e):∀p∈Mk b,p:=by
 induction h with
 |nil=>simp[Mk]
 |cons f _ g=>
  intro p d;simp[Mk]at d;exact d.elim (f.qZ p) (g p)
def eh.qZ{c:Cx}{t:oh}{v:Value}(h:eh c ρ t v):∀p∈t.ok,p:=by
 cases t with
 |c a=>exact Rd.qZ h
 |agg l=>let⟨b,_,h⟩:=h;exact N2.qZ h
def Zp.qZ{c:Cx}{b:List oh}{e:List Value}(h:hY (eh c ρ) b e):∀p∈Kf b,p:=by
 induction h with
 |nil=>simp[Kf]
 |cons f _ g=>
  intro p d;simp[Kf]at d;exact d.elim (f.qZ p) (g p)
theorem eh.cells{c:Cx}{t:oh}{v:Value}(h:eh c ρ t v):∃b,v.cells=toArray b/\hY (Rd c ρ) t.cells b:=by
 cases t with
 |c a=>
  refine⟨[v],?_,.cons h .nil⟩;have:=Rd.one h;cases v<;>simp_all[Value.cells,Value.oneCell']
 |agg l=>obtain⟨d,rfl,h⟩:=h;exact⟨d,rfl,h⟩
def Ey(p:pe G ρ H w){v:Value}(h:Rd (cx G ρ w) ρ a v){q:List AV}{o:Nat}(b:ze H a=some (q,o)):
  ∃A e,v=.pointer (some A)/\j0 w A (e.drop o)/\hY (Rd (cx G ρ w) ρ) q e:=by
 cases a<;>simp only[ze]at b;case ptr id k=>
  split at b
  next t l m=>cases b;obtain⟨r,D,g,e,rfl,c,d⟩:=p.at_ (cC m aa);obtain⟨F,u,rfl⟩:=h;rw[D]at u;cases u;refine⟨_,e,rfl,?_,d⟩;have:=(dW (cells:=e) (sp:=[]) (by simpa using c)).drop o;rwa[add_lit,A3]at this
  cases b
 case y8 id i k=>
  split at b
  .rename_i t s j m;cases b;obtain⟨g,I,len,z,c,d,rfl⟩:=h;rcases cS p m with⟨R,rfl⟩|⟨F,y,cells,sp,f,J,K,P⟩
   .grind
   rw[f]at c;cases c;have B:=r5 d;have L:j.getD i (c4 s)=j[i]:=by rw[getD_eq_getElem?_getD,B];rfl
   rw[L];have C:=(K.drop (i*s.size)).take s.size;rw[qE B]at C;refine⟨_,_,rfl,?_,jb C⟩;have:=(((dW J).drop (i*s.size)).take s.size).drop o;rwa[add_lit,add_lit,A3]at this
  cases b
 case fe s x k=>
  cases b;obtain⟨A,cells,c,d,f,rfl⟩:=h;exact⟨_,cells,rfl,d.drop _,jb f⟩
 case xx k l=>
  split at b;all_goals first|cases b|skip
  all_goals try(rename_i n;cases n)
  obtain⟨Q,c,A,rfl,d,f⟩:=h;exact⟨A,Q,rfl,f.drop _,by cases c with|cons c d=>cases d;exact .cons c .nil⟩
 all_goals cases b
end
section
variable{P:Program}{T:List (Nat×TI)}{G:Gl}{n:Nat}{F:Fr}{w:World}{x y:Operand}{ty t t':TypeId}{ρ:List RE}{H:AH}
variable{r:PR}{a:AV}
def Bq(hT:bG P G.shp T)(S:pe G ρ H w){v:Value}(h:Rd (cx G ρ w) ρ a v)(L:ev F x=some v)(f:GN T H t a=some r):∃u,aW P n F w (.load t x) ty u w/\Rt (cx G ρ w) ρ r.v u/\r.ob=[]/\r.fc=[]:=by
 unfold GN at f;split at f
 .rename_i B v6 o C D;obtain⟨A,U,rfl,m3,j⟩:=Ey S h D;let⟨⟨I,_⟩,c⟩:=hT _ _ C;have l:∀(_:Nat.ble (o+B.size) v6=true) (d:TypeDesc),P.underlying t=some d->mn d=true->aW P n F w (.load t x) ty (.agg (((U.drop o).take B.size).toArray)) w:=λp d q s=>by
   have V:=G8 p;have Q:=j.length;exact R.aaO L q s (by rw[I,sh,length_drop];congr 1;omega) (m3.take _)
  have z:∀(a:AV) (d:TypeDesc),P.underlying t=some d->mn d=false->v6[o]? =some a->∃u,aW P n F w (.load t x) ty u w/\Rd (cx G ρ w) ρ a u:=λa d q s v2=>by
   let⟨u,J,m1⟩:=e_ j o a v2;refine⟨u,R.ZY L q s ?_,m1⟩;have:=m3 0 u (by rw[D1,M6];exact J);rwa[yp]at this
  split at f
  next y g p=>cases f;rw[g]at c;let⟨Fs,J,_⟩:=c;exact⟨_,l p _ J rfl,⟨_,rfl,(j.drop _).take _⟩,rfl,rfl⟩
  next m e g p=>cases f;rw[g]at c;exact⟨_,l p _ c rfl,⟨_,rfl,(j.drop _).take _⟩,rfl,rfl⟩
  .cases f
  .cases f
  .cases f
  rename_i k b h1 h2 h3;split at f
  .rename_i a s;cases f;have:∃d,P.underlying t=some d/\mn d=false:=by
    cases g:B.k<;>rw[g]at c;case i=>exact⟨_,c,rfl⟩
    case bool=>exact⟨_,c,rfl⟩
    case str=>exact⟨_,c,rfl⟩
    case sl=>exact⟨_,c.1,rfl⟩
    case st=>simp_all
    case ar=>simp_all
    case mp=>exact⟨_,c.1,rfl⟩
    case W4=>exact⟨_,c,rfl⟩
    case ms=>exact⟨_,c.1,rfl⟩
    case mg=>exact⟨_,c.1,rfl⟩
    case ptr=>let⟨e,c⟩:=c;exact⟨_,c,rfl⟩
    all_goals exact c
   let⟨d,q,K⟩:=this;let⟨u,E,Z⟩:=z a d q K s;exact⟨u,E,Z,rfl,rfl⟩
  cases f
 cases f
def Af{g c:Type}{f:g->Option c}:∀{l:List g} {r:List c},l.mapM f=some r->∀(i:Nat) (q:c),r[i]? =some q->∃a,l[i]? =some a/\f a=some q
 |a::l,r,h,i,q,d=>by
  simp[Option.bind_eq_some_iff]at h;obtain⟨b,j,k,e,rfl⟩:=by simpa using h
  cases i with
  |zero=>simp at d;subst d;exact⟨a,rfl,j⟩
  |succ i=>simpa using Af e i q (by simpa using d)
def KA(hT:bG P G.shp T){c:Cx}{v:Value}{J:List (Nat×Nat)}{sz:Nat}{z:List AV}{i o k:Nat}(Z:bt T t=some ⟨.st J,sz,z⟩)(K:J[i]? =some (o,k))(h:Rd c ρ a v)(q:ev F x=some v)(b:a.rR o=some r):
  ∃u,aW P n F w (.fieldAddr t x i) ty u w/\Rt c ρ r.v u/\r.ob=[]/\r.fc=[]:=by
 let⟨_,Fs,B,m3,Q,_⟩:=hT _ _ Z;let⟨f,S,j⟩:=Af m3 i _ K;rw[I0]at j;let⟨l,m,U⟩:=j;cases U;have V:=Q _ (C5 K);have d:(P.info? f.type).map (·.size)=some (l.size-1+1):=by rw[m];show some l.size=some _;congr 1;simp only at V;omega
 have C:Fs[i]? =some f:=by simpa using S
 cases a with
 |ptr id L=>
  simp[AV.rR,pr]at b;subst b;obtain⟨g,p,rfl⟩:=h;have:=R.fieldAddr (P:=P) (n:=n) (w:=w) (ty:=ty) q B C rfl d;rw[add_lit]at this;exact⟨_,this,⟨g,p,rfl⟩,rfl,rfl⟩
 |y8 id E L=>
  simp[AV.rR,pr]at b;subst b;obtain⟨g,D,len,z,p,I,rfl⟩:=h;have:=R.fieldAddr (P:=P) (n:=n) (w:=w) (ty:=ty) q B C rfl d;rw[add_lit]at this;exact⟨_,this,⟨g,D,len,z,p,I,by rw[Nat.add_assoc]⟩,rfl,rfl⟩
 |fe s y L=>
  simp[AV.rR,pr]at b;subst b;obtain⟨A,e,p,I,H,rfl⟩:=h;have:=R.fieldAddr (P:=P) (n:=n) (w:=w) (ty:=ty) q B C rfl d;rw[add_add]at this;exact⟨_,this,⟨A,e,p,I,H,rfl⟩,rfl,rfl⟩
 |_=>simp[AV.rR]at b
end
def DK:List Value->Value
 |[v]=>v
 |l=>.tuple l.toArray
def r8(P:Program)(shp:TypeId->Option Sh)(f:Nat)(args:List oh)(H:AH)(r:B5):=
 (∃d,P.funcs[f]? =some d/\(d.name== "runtime.NumGoroutine")=false/\d.body.isNone=false)/\
 ∀(G:Gl) (b:List RE) (w:World) (h:List Value),G.shp=shp->pe G b H w->hY (eh (cx G b w) b) args h->mT P f h.toArray w λv c=>∃e,v=DK e/\match r.out with
  |none=>Kp [] w c/\hY (eh (cx G b c) b) r.rs e
  |some k=>∃a,pe G a k c/\u7 b w a c/\(∀(i g:Nat),b[i]? =some (.blk g)->a[i]? =some (.blk g))/\hY (eh (cx G a c) a) r.rs e/\(r.dc=true->Kp [] w c/\ ∀(i:Nat) (j:RE),b[i]? =some j->a[i]? =some j)
def dN(P:Program)(shp:TypeId->Option Sh)(a:ic):=∀f args H r,a f args H=some r->(∀p∈r.pre,p)->r8 P shp f args H r
theorem cu{i:Nat}:∀{l:List Nat},cZ i l=true↔i∈l
 |[]=>by simp[cZ]
 |j::r=>by
  unfold cZ;cases a:Nat.beq i j
  .have:i≠j:=by rintro rfl;simp at a
   simp[cu,this]
  simp_all
theorem kO{σ:List Nat}:∀{l:List Nat},sU σ l=true↔∀i∈l,i∈σ
 |[]=>by simp[sU]
 |j::r=>by simp[sU,cu,kO]
theorem oO{σ:List Nat}:∀{l:List Nat},rb σ l=true↔∀i∈l,i∉σ
 |[]=>by simp[rb]
 |j::r=>by
  simp[rb,oO,<-Bool.not_eq_true,cu]
theorem lB:∀{l:List Nat},lV l=true↔l.Nodup
 |[]=>by simp[lV]
 |j::r=>by
  simp[lV,lB,<-Bool.not_eq_true,cu]
theorem kg{H:AH}{σ:List Nat}:∀{l:List Nat},jc H σ l=true↔∀i∈l,i<H/\∀j∈(l9 H i).ids,j∈σ
 |[]=>by simp[jc]
 |j::r=>by simp[jc,kg,kO]
theorem nq{i:Nat}:∀{σ:List Nat},i∈σ->σ[posOf i σ]? =some i
 |j::r,h=>by
  unfold posOf;cases b:Nat.beq i j
  .have a:i≠j:=by rintro rfl;simp at b
   have:i∈r:=by simpa[a] using h
   simpa using nq this
  simp_all
def eu(a:List RE)(σ:List Nat):=σ.map λi=>a.getD i .no
variable{ρ:List RE}{σ:List Nat}{i j:Nat}
def yI(h:σ[j]? =some i):(eu ρ σ)[j]? =some (ρ.getD i .no):=by simp[eu,h]
variable{r:RE}
def getD_some(h:ρ[i]? =some r):ρ.getD i .no=r:=by rw[getD_eq_getElem?_getD,h];rfl
def jG(h:i∈σ)(a:ρ[i]? =some r):(eu ρ σ)[posOf i σ]? =some r:=by rw[yI (nq h),getD_some a]
def gF(h:(eu ρ σ)[j]? =some r)(a:r≠ .no):ρ[σ.getD j 0]? =some r:=by
 simp[eu]at h;grind
def iT{b:Nat}(h:live (eu ρ σ) b):live ρ b:=by
 let⟨j,r,c,a⟩:=h;exact⟨_,r,gF c (by rintro rfl;cases a),a⟩
def oc{ρ a:List RE}{f:Nat->Nat}:∀{l:List (Nat×Nat)} {b:List Value},(∀i∈l.map (·.1),∀g,ρ[i]? =some (.blk g)->a[f i]? =some (.blk g))->hY (fw ρ) l b->hY (fw a) (Oj f l) b
 |[],_,_,h=>by cases h;exact .nil
 |(i,o)::r,_,c,h=>by
  cases h with
  |cons k m=>
   let⟨g,n,e⟩:=k;exact .cons ⟨g,c i aa g n,e⟩ (oc (λj d=>c j (by simp at d⊢;exact .inr d)) m)
def Rd.nH{c y:Cx}{ρ q:List RE}{f:Nat->Nat}{a:AV}{v:Value}(p:a.plain=true->Pd c a v->Pd y a v)(B:∀s x o,a=.fe s x o->Rd y q a v)(C:∀k A t,a=.xx k A->k.rd c t v->k.rd y t v)(m:∀i∈a.ids,∀r,ρ[i]? =some r->r≠ .no->q[f i]? =some r)(h:Rd c ρ a v):Rd y q (a.nH f) v:=by
 cases a with
 |own id=>
  rcases h with⟨g,d,len,z,h,e⟩|⟨h,e⟩
  .exact .inl ⟨g,d,len,z,m id (by simp[AV.ids]) _ h aa,e⟩
  exact .inr ⟨m id (by simp[AV.ids]) _ h aa,e⟩
 |sub id o l=>
  rcases h with⟨g,d,len,z,h,e⟩|⟨h,e⟩
  .exact .inl ⟨g,d,len,z,m id (by simp[AV.ids]) _ h aa,e⟩
  exact .inr ⟨m id (by simp[AV.ids]) _ h aa,e⟩
 |ptr id o=>
  let⟨g,h,e⟩:=h;exact⟨g,m id (by simp[AV.ids]) _ h aa,e⟩
 |y8 id i o=>
  let⟨g,d,len,z,h,e⟩:=h;exact⟨g,d,len,z,m id (by simp[AV.ids]) _ h aa,e⟩
 |fn g b A=>
  let⟨G,t,D,F,e⟩:=h;refine⟨G,t,oc (λi u g w=>m i ?_ _ w aa) D,oc (λi u g w=>m i ?_ _ w aa) F,e⟩
  .simp only[AV.ids,A7];exact .inl u
  simp only[AV.ids,A7];exact .inr u
 |fe s x o=>exact B s x o rfl
 |xx k A=>
  let⟨t,D,F⟩:=h;exact⟨t,oc (λi u g w=>m i u _ w aa) D,C k A t rfl F⟩
 |mq id=>
  let⟨g,h,e⟩:=h;exact⟨g,m id (by simp[AV.ids]) _ h aa,e⟩
 |np=>exact h
 |nf=>exact h
 |yl l=>exact h
 |dead=>exact h
 |int n=>exact p rfl h
 |u8 b=>exact p rfl h
 |u64 n=>exact p rfl h
 |bool e=>exact p rfl h
 |str s=>exact p rfl h
 |em b=>exact p rfl h
 |li I H=>exact p rfl h
 |fz s H=>exact p rfl h
theorem iv{f:Sh->Bool}:∀{l:List Sh},kJ f l=true↔∀s∈l,f s=true
 |[]=>by simp[kJ]
 |s::r=>by simp[kJ,iv]
def lQ{s:Sh}{x:l7 s}{a:Sh}{b:List (l7 a)}(h:AV.fz a b∈cellsOf s x):a∈s.je:=by
 cases s with
 |nm t=>cases t<;>simp[cellsOf,NT.cells]at h<;>first|(simp[Sh.je,NT.je,h];done)|(rcases h with h|h|h<;>simp[Sh.je,NT.je,h.1];done)|(rcases h with h|h|h|h<;>simp[Sh.je,NT.je,h.1];done)|(rcases h with h|h<;>simp[Sh.je,NT.je,h.1])
 |F9 s=>simp[cellsOf]at h;simp[Sh.je,h.1]
 |_=>simp[cellsOf]at h
def lj{s:Sh}{x:l7 s}{a:Bool}{b:List Int}(h:AV.li a b∈cellsOf s x):Sh.int∈s.je:=by
 cases s with
 |nm t=>cases t<;>simp[cellsOf,NT.cells]at h<;>simp[Sh.je,NT.je]
 |lx=>simp[Sh.je]
 |_=>simp[cellsOf]at h
def Vg(n:Nat)(b:Sh):AV->Bool
 |.fz s _=>Sh.no n b s
 |.li _ _=>Sh.no n b .int
 |_=>true
variable{c':Cx}
def XK.rd.unl{c:Cx}{e:List Sh}{k:XK}{q:List (Nat×Nat)}{m:List Value}{v:Value}(d:c'.w=c.w)(n:c'.shp=c.shp)(f:c'.B0=c.B0)
  (s:∀b,c.S b->c'.S b\/(¬b<c.B0/\∃o∈e,∃g t fr,c.w.heap[b]? =some (.cells g t fr)/\c.shp t=some o))(h:k.rd c m v)(l:∀b∈e,(AV.xx k q).no b=true):k.rd c' m v:=by
 by_cases p:e=[]
 .subst p;exact h.le ⟨n,f,λb a=>⟨(s b a).resolve_right λ⟨_,o,h,_⟩=>by simp at h,by rw[d]⟩,λb _ _=>by rw[d]⟩
 let⟨b,a⟩:=List.exists_mem_of_ne_nil _ p;have:=l b a;cases k;case er=>exact h
 case bp=>exact h
 case w=>exact h
 case kf=>exact h
 case ff=>exact XK.aa0 h ⟨n,f,λb a=>⟨⟨by rw[f];exact a.1,by rw[d];exact a.2⟩,by show c'.w.heap[b]? =_;rw[d];rfl⟩,λb _ _=>by show c'.w.heap[b]? =_;rw[d];rfl⟩
 all_goals simp[AV.no]at this
variable{a:AV}
def Pd.SO{c:Cx}(u:List Sh)(q:c'.w=c.w)(K:c'.shp=c.shp)(H:c'.B0=c.B0)
  (R:∀b,c.S b->c'.S b\/(¬b<c.B0/\∃L∈u,∃d t fr,c.w.heap[b]? =some (.cells d t fr)/\c.shp t=some L)){v:Value}(h:Pd c a v):∀n,(∀b∈u,Vg n b a=true)->Pd c' a v:=by
 refine @Pd.rec c (λa v _=>∀n,(∀b∈u,Vg n b a=true)->Pd c' a v) (λz E _=>∀n,(∀a∈z,∀b∈u,Vg n b a=true)->r6 c' z E) ?_ ?_ ?_ ?_ ?_ ?_ ?_ ?_ ?_ ?_ a v h
 .intro n f _ _;exact .int f
 .intro b _ _;exact .u8
 .intro n f _ _;exact .u64 f
 .intro e _ _;exact .bool
 .intro s f _ _;exact .str f
 .intro b a f _ _;exact .em f
 .intro s xs a k S f B m3 _ m ih n g;have l:∀b∈u,s≠b/\∀P∈s.je,Sh.no (n-1) b P=true:=λb I=>by
   have:=g b I;cases n with
   |zero=>simp[Vg,Sh.no]at this
   |succ n=>
    simp[Vg,Sh.no,iv]at this;exact this
  refine .fz f B m3 (ih (n-1) λx J b I=>?_) ?_
  .rw[List.mem_flatMap]at J;let⟨y,_,w⟩:=J;cases x with
   |fz P ys=>exact(l b I).2 P (lQ w)
   |li nw ys=>exact(l b I).2 .int (lj w)
   |_=>rfl
  rcases m with m|⟨A,Q,o,T⟩
  .exact .inl m
  refine .inr ⟨A,Q,?_,by rw[q];exact T⟩;rcases R _ o.1 with p|⟨p,L,C,d,t,fr,Z,i⟩
  .refine⟨p,?_⟩;rw[H,q,K];exact o.2
  rcases o.2 with j|⟨D,t',U,j,h10,_⟩
  .exact absurd j p
  grind
 .intro nw xs a k f B m3 h4 m n g;refine .li f B m3 h4 ?_;rcases m with m|⟨A,Q,hn,ho,T⟩
  .exact .inl m
  have l:c.at .int A.block->c'.at .int A.block:=λk=>by
   rcases R _ k.1 with p|⟨p,L,C,D,t',U,Z,i⟩
   .exact⟨p,by rw[H,q,K];exact k.2⟩
   rcases k.2 with V|⟨d,t,fr,F,G,_⟩
   .exact absurd V p
   rw[Z]at F;cases F;rw[i]at G;cases G;have:=g _ C;cases n<;>simp[Vg,Sh.no]at this
  refine .inr ⟨A,Q,λe=>?_,λe=>(ho e).imp (λk=>⟨by rw[H];exact k.1,by rw[q];exact k.2⟩) l,by rw[q];exact T⟩;let⟨k1,V,d,t,fr,F,G,k6⟩:=hn e;have k5:=l ⟨k1,.inr ⟨d,t,fr,F,G,λ_=>k6⟩⟩;exact⟨k5.1,by rw[H];exact V,d,t,fr,by rw[q];exact F,by rw[K];exact G,k6⟩
 .intro _ _;exact .nil
 intro a v r E _ _ f B n g;exact .cons (f n (g a aa)) (B n λx J=>g x (by simp[J]))
theorem zh{b:Sh}:∀{l:List AV},S0 b l=true↔∀a∈l,a.no b=true
 |[]=>by simp[S0]
 |a::r=>by simp[S0,zh]
theorem zC{b:Sh}:∀{l:List oh},U3 b l=true↔∀t∈l,∀a∈t.cells,a.no b=true
 |[]=>by simp[U3]
 |a::r=>by simp[U3,zC,zh]
def sa{H:AH}{i:Nat}{t:TypeId}{s:Sh}{b:List (l7 s)}(h:l9 H i=.row t s b):∀{l:List Nat},i∈l->s∈gE H l
 |j::r,hi=>by
  rcases v7.1 hi with rfl|hi
  .simp[gE,h]
  have:=sa h hi;unfold gE;grind
def qx{c c':Cx}{ρ d:List RE}{f:Nat->Nat}:∀{b:List AV} {e:List Value},(∀a∈b,∀v,Rd c ρ a v->Rd c' d (a.nH f) v)->hY (Rd c ρ) b e->hY (Rd c' d) (Ni f b) e
 |[],_,_,h=>by cases h;exact .nil
 |a::r,_,g,h=>by cases h with|cons k l=>exact .cons (g a aa _ k) (qx (λx m=>g x (by simp[m])) l)
variable{t:oh}
def Ra{c:Cx}{b:List RE}{f:Nat->Nat}{v:Value}(d:∀a∈t.cells,∀v,Rd c ρ a v->Rd c' b (a.nH f) v)(h:eh c ρ t v):eh c' b (t.nH f) v:=by
 cases t with
 |c a=>exact d a (by simp[oh.cells]) _ h
 |agg l=>obtain⟨e,rfl,h⟩:=h;exact⟨e,rfl,qx d h⟩
def nU{c c':Cx}{ρ b:List RE}{f:Nat->Nat}:∀{d:List oh} {e:List Value},(∀t∈d,∀a∈t.cells,∀v,Rd c ρ a v->Rd c' b (a.nH f) v)->hY (eh c ρ) d e->hY (eh c' b) (kq f d) e
 |[],_,_,h=>by cases h;exact .nil
 |t::r,_,g,h=>by cases h with|cons k l=>exact .cons (Ra (g t aa) k) (nU (λx m=>g x (by simp[m])) l)
def Pn{c c':Cx}{ρ d:List RE}{f:Nat->Nat}{H:AH}:∀{b:List AV} {e:List Value},(∀a∈b,∀v,Rd c ρ a v->Rd c' d ((a.vw H).nH f) v)->hY (Rd c ρ) b e->hY (Rd c' d) (Ni f (Io H b)) e
 |[],_,_,h=>by cases h;exact .nil
 |a::r,_,g,h=>by cases h with|cons k l=>exact .cons (g a aa _ k) (Pn (λx m=>g x (by simp[m])) l)
def EL{c c':Cx}{ρ b:List RE}{f:Nat->Nat}{H:AH}:∀{g:List oh} {d:List Value},(∀t∈g,∀a∈t.cells,∀v,Rd c ρ a v->Rd c' b ((a.vw H).nH f) v)->hY (eh c ρ) g d->hY (eh c' b) (kq f (LJ H g)) d
 |[],_,_,h=>by cases h;exact .nil
 |t::r,_,k,h=>by
  cases h with
  |cons e m=>
   refine .cons ?_ (EL (λx n=>k x (by simp[n])) m);cases t with
   |c a=>exact k (.c a) aa a (by simp[oh.cells]) _ e
   |agg l=>obtain⟨d,rfl,e⟩:=e;exact⟨d,rfl,Pn (k (.agg l) aa) e⟩
def mK{i:Nat}:∀{l:List AV} {a:AV},a∈l->i∈a.ids->i∈zb l
 |b::r,a,h,c=>by
  simp[zb];rcases v7.1 h with rfl|h
  .grind
  exact .inr (mK h c)
def ux{i:Nat}:∀{l:List (Int×AV)} {q:Int×AV},q∈l->i∈q.2.ids->i∈Tw l
 |b::r,q,h,c=>by
  simp[Tw];rcases v7.1 h with rfl|h
  .grind
  exact .inr (ux h c)
theorem oX{H:AH}:∀{l:List Nat},rh H l=true↔∀i∈l,∃t s b,l9 H i=.row t s b
 |[]=>by simp[rh]
 |i::r=>by
  simp[rh,oX];grind
theorem tW{f:Nat->Nat}:∀l:List (Int×AV),ZR f l=l.map λq=>(q.1,q.2.nH f)
 |[]=>rfl
 |(k,a)::r=>by simp[ZR,tW r]
def nb{i:Nat}:∀{l:List oh} {t:oh} {a:AV},t∈l->a∈t.cells->i∈a.ids->i∈tc l
 |b::r,t,a,h,c,d=>by
  simp[tc];rcases v7.1 h with rfl|h
  .exact .inl (mK c d)
  exact .inr (nb h c d)
def CF{H:AH}(h:a∈t.cells):a.vw H∈(t.vw H).cells:=by
 cases t with
 |c b=>simp[oh.cells]at h;subst h;simp[oh.vw,oh.cells]
 |agg l=>
  simp[oh.cells]at h;simp[oh.vw,oh.cells];induction l with
  |nil=>simp at h
  |cons b r d=>
   rcases v7.1 h with rfl|h
   .simp[Io]
   simp[Io];exact .inr (d h)
def yZ{H:AH}:∀{l:List oh} {t:oh},t∈l->t.vw H∈LJ H l
 |b::r,t,h=>by
  rcases v7.1 h with rfl|h
  .simp[LJ]
  simp[LJ];exact .inr (yZ h)
def AA{i:Nat}:∀{l:List AV} {a:AV},a∈l->(a=.own i\/∃o k,a=.sub i o k)->i∈gb l
 |b::r,a,h,c=>by
  rcases v7.1 h with rfl|h
  .rcases c with rfl|⟨o,k,rfl⟩<;>simp[gb]
  have:=AA h c;cases b<;>simp[gb,this]
def vQ{i:Nat}:∀{l:List oh} {t:oh} {a:AV},t∈l->a∈t.cells->(a=.own i\/∃o k,a=.sub i o k)->i∈g_ l
 |b::r,t,a,h,c,d=>by
  simp[g_];rcases v7.1 h with rfl|h
  .exact .inl (AA c d)
  exact .inr (vQ h c d)
def Rm{b:Sh}(h:a.no b=true):Vg 5 b a=true:=by cases a<;>first|rfl|exact h
theorem Cy{H:AH}:∀{σ:List Nat} {j i:Nat},σ[j]? =some i->(nj H σ)[j]? =some (l9 H i)
 |k::r,0,i,h=>by simp at h;subst h;simp[nj]
 |k::r,j+1,i,h=>by simpa[nj] using Cy (σ:=r) (by simpa using h)
theorem ua{f:Nat->Nat}:∀{l:List AO} {j:Nat} {o:AO},l[j]? =some o->(ru f l)[j]? =some (o.nH f)
 |k::r,0,i,h=>by simp at h;subst h;simp[ru]
 |k::r,j+1,i,h=>by simpa[ru] using ua (l:=r) (by simpa using h)
theorem nu{f:Nat->Nat}:∀{l:List AO},(ru f l)=l.length
 |[]=>rfl
 |_::r=>by simp[ru,nu]
theorem xH{H:AH}:∀{σ:List Nat},(nj H σ)=σ.length
 |[]=>rfl
 |_::r=>by simp[nj,xH]
section
variable{G:Gl}{ρ:List RE}{H:AH}{w:World}{σ:List Nat}
def pe.sub(C:pe G ρ H w){Z':Nat->Prop}(hn:lV σ=true)(hc:jc H σ σ=true)(hZ:∀b,Z' b->b<w.heap.size)(J:∀b,¬G.Z b->¬live ρ b->¬Z' b)(K:∀b,live (eu ρ σ) b->¬Z' b):
  pe ⟨G.shp,G.B0,Z'⟩ (eu ρ σ) (ru (posOf · σ) (nj H σ)) w/\(cx G ρ w).le (cx ⟨G.shp,G.B0,Z'⟩ (eu ρ σ) w):=by
 have c:(cx G ρ w).le (cx ⟨G.shp,G.B0,Z'⟩ (eu ρ σ) w):=⟨rfl,rfl,λb F=>⟨⟨F.1,λhl=>F.2.1 (iT hl),J b F.2.2 F.2.1⟩,rfl⟩,λ_ _ _=>rfl⟩;have L:=kg.1 hc;refine⟨⟨dw (by simp[nu,xH,eu]) λj o r R y=>?_,λi j r r' g u p B I=>?_,λi r g u p=>?_,hZ,C.b0,C.tb.ed c⟩,c⟩
 .have Z:j<σ:=by
   have:=(sy.1 y).1;simpa[eu] using this
  have D:=r5 Z;have z:σ[j]∈σ:=I1 _;rw[yI D]at y;cases y;rw[ua (Cy (H:=H) D)]at R;cases R;obtain⟨m3,m⟩:=L _ z;have hH:=r5 m3;have hO:l9 H σ[j]=H[σ[j]]:=by unfold l9;rw[getD_eq_getElem?_getD,hH];rfl
  obtain⟨r,y,k⟩:=C.at_ hH;rw[getD_some y,hO];rw[hO]at m;generalize H[σ[j]]=o at k m;cases o with
  |gone=>exact k
  |s6 s f=>
   obtain⟨g,rfl,h⟩:=k;exact⟨g,rfl,h.ed c rfl⟩
  |loc=>trivial
  |r9 l=>
   obtain⟨g,rfl,h⟩:=k;refine⟨g,rfl,h.map (g0:=λa=>a.nH (posOf · σ)) (tW l) (λq hq v h=>Rd.nH (λ_ P=>P.ed c) (λs x o e=>?_) (λ_ _ _ _ h=>h.le c) (λi z r y _=>jG (m i (ux hq z)) y) h) rfl⟩;rw[e]at h⊢;obtain⟨A,d,Q,T,U,e⟩:=h;exact⟨A,d,(c.S _ Q).1,T,U.ed c,e⟩
  |A8 t s n xs=>
   obtain⟨g,V,rfl,u,p,B⟩:=k;exact⟨g,V,rfl,u,p.ed c,B⟩
  |box t cs=>
   obtain⟨g,V,rfl,u,p⟩:=k;refine⟨g,V,rfl,u,qx (λa ha v h=>Rd.nH (λ_ P=>P.ed c) (λs x o e=>?_) (λ_ _ _ _ h=>h.le c) (λi z r y _=>jG (m i (mK ha z)) y) h) p⟩;subst e;obtain⟨A,d,Q,T,U,e⟩:=h;exact⟨A,d,(c.S _ Q).1,T,U.ed c,e⟩
  |row t s xs=>
   obtain⟨u,p,B⟩:=k;exact⟨u,p,B.imp id λ⟨g,S,d,sp,e,I,h5,h6⟩=>⟨g,S,d,sp,e,I,h5.ed c,h6⟩⟩
 .have E:=gF u (by rintro rfl;cases B);have e2:=gF p (by rintro rfl;cases I);have:=C.inj _ _ _ _ g E e2 B I;have z:i<σ:=by simpa[eu] using(sy.1 u).1
  have Z:j<σ:=by simpa[eu] using(sy.1 p).1
  have a1:σ.getD i 0=σ[i]:=by rw[getD_eq_getElem?_getD,r5 z];rfl
  have a2:σ.getD j 0=σ[j]:=by rw[getD_eq_getElem?_getD,r5 Z];rfl
  rw[a1,a2]at this;exact(List.getElem_inj (lB.1 hn)).1 this
 have E:=gF u (by rintro rfl;cases p);have:=C.u0 _ _ g E p;exact⟨this.1,this.2.1,K g ⟨i,r,u,p⟩⟩
end
section
variable{P:Program}{G:Gl}{m3:ic}{n:Nat}{F:Fr}{w:World}{ρ:List RE}{H:AH}
def xt(hO:dN P G.shp m3)(hR:pe G ρ H w){f:Nat}{args:List oh}{vs:List Value}{r:PR}(E:hY (eh (cx G ρ w) ρ) args vs)(h:Ib m3 H f args=some r)(hob:∀p∈r.ob,p):
  (∃fn,P.funcs[f]? =some fn/\(fn.name== "runtime.NumGoroutine")=false/\fn.body.isNone=false)/\mT P f vs.toArray w λv Z=>Kp [] w Z/\Rt (cx G ρ Z) ρ r.v v/\∀p∈r.fc,p:=by
 unfold Ib at h;generalize hσ:uw H (LJ H args)=σ at h;simp only at h;split at h
 .rename_i hck;simp at hck;obtain⟨⟨⟨⟨hn,hai⟩,hcl⟩,hno⟩,hrw⟩:=hck;split at h
  .rename_i pre rs kp hrs;split at h
   .rename_i hsh;cases h;have hai:=kO.1 hai;have hno:=oO.1 hno;let L:Nat->Prop:=λb=>∃id∈g_ args,∃rr,ρ[id]? =some rr/\rr.g?=some b
    let Z':Nat->Prop:=λb=>G.Z b\/(live ρ b/\¬live (eu ρ σ) b/\¬L b)
    have R:∀b,L b->¬live (eu ρ σ) b:=by
     rintro b ⟨id,D,rr,C,Q⟩ ⟨j,r2,y,U⟩;have e:=gF y (by rintro rfl;cases U);have e2:=hR.inj _ _ _ _ b C e Q U;have hj:j<σ:=by simpa[eu] using(sy.1 y).1
     have a1:σ.getD j 0=σ[j]:=by rw[getD_eq_getElem?_getD,r5 hj];rfl
     exact hno id D (by rw[e2,a1];exact I1 _)
    obtain⟨hR',n⟩:=hR.sub (σ:=σ) (Z':=Z') hn hcl (λb S=>S.elim (hR.z b) λ⟨⟨i,r,C,Q⟩,_⟩=>(hR.u0 i r b C Q).2.1) (λb C Q hz=>hz.elim C λy=>Q y.1)
     (λb C hz=>hz.elim (λQ=>by obtain⟨i,r,y,U⟩:=iT C;exact(hR.u0 i r b y U).2.2 Q) λQ=>Q.2.1 C)
    obtain⟨hfn,hrun⟩:=hO _ _ _ _ hrs hob;refine⟨hfn,?_⟩;have hargs:hY (eh (cx ⟨G.shp,G.B0,Z'⟩ (eu ρ σ) w) (eu ρ σ)) (kq (posOf · σ) (LJ H args)) vs:=by
     refine EL (λt ht a ha v hv=>?_) E;have hids:∀i∈(a.vw H).ids,i∈σ:=λi hi=>hai i (nb (yZ ht) (CF ha) hi);by_cases F:∃id,a=.own id\/∃o k,a=.sub id o k
     .obtain⟨id,D⟩:=F;have hmem:=vQ ht ha D;cases hv2:a.vw H with
      |fz s xs=>
       refine mF (pP hR n rfl hv (λg d len z ⟨id',he,C⟩=>?_) hv2);have e:id'=id:=by rcases D with rfl|⟨o,k,rfl⟩<;>rcases he with he|⟨_,_,he⟩<;>cases he<;>rfl
       subst e;have V:L g:=⟨id',hmem,_,C,rfl⟩;have S:=hR.u0 _ _ g C rfl;exact⟨S.2.1,R g V,λhz=>hz.elim S.2.2 λQ=>Q.2.2 V⟩
      |dead=>exact Rd.one hv
      |_=>
       rcases D with rfl|⟨o,k,rfl⟩<;>simp[AV.vw]at hv2<;>split at hv2<;>cases hv2
     have e:a.vw H=a:=by
      cases a<;>first|rfl|exact absurd ⟨_,.inl rfl⟩ F|exact absurd ⟨_,.inr ⟨_,_,rfl⟩⟩ F
     rw[e]at hids⊢;refine Rd.nH (λ_ hp=>hp.ed n) (λs x o e=>?_) (λ_ _ _ _ h=>h.le n) (λi hi r hr _=>jG (hids i hi) hr) hv;subst e;obtain⟨A,K,k1,k2,k3,e⟩:=hv;exact⟨A,K,(n.S _ k1).1,k2,k3.ed n,e⟩
    refine(hrun ⟨G.shp,G.B0,Z'⟩ _ w vs rfl hR' hargs).mono λv Z ⟨J,hv,hk,hrs'⟩=>(⟨hk,?_,Zp.qZ hrs'⟩);have hback:hY (eh (cx G ρ Z) ρ) (kq (λj=>σ.getD j 0) rs) J:=by
     refine nU (λt ht a ha u hu=>?_) hrs';have hno5:∀b∈gE H (g_ args),a.no b=true:=λb S=>zC.1 (iv.1 hsh b S) t ht a ha;have hS:∀b,(cx ⟨G.shp,G.B0,Z'⟩ (eu ρ σ) Z).S b->(cx G ρ Z).S b\/(¬b<G.B0/\∃sb∈gE H (g_ args),∃cur t fr,Z.heap[b]? =some (.cells cur t fr)/\G.shp t=some sb):=by
      rintro b ⟨C,Q,y⟩;by_cases V:live ρ b
      .right;have hlt:L b:=by
        by_cases hx:L b
        .exact hx
        exact absurd (.inr ⟨V,Q,hx⟩) y
       obtain⟨id,D,rr,U,h5⟩:=hlt;have S:=hR.u0 _ _ b U h5;refine⟨N,?_⟩;have hlen:id<H:=by
        have:=(sy.1 U).1;rw[hR.obj.length];exact this
       obtain⟨r',hr',I⟩:=hR.at_ (r5 hlen);rw[U]at hr';cases hr';have hO:l9 H id=H[id]:=by unfold l9;rw[getD_eq_getElem?_getD,r5 hlen];rfl
       cases ho:H[id]with
       |gone=>rw[ho]at I;cases I;cases h5
       |box t cs=>
        exfalso;have:∀(l:List oh) (J:List Value),hY (eh (cx G ρ w) ρ) l J->id∈g_ l->∃g d len z,ρ[id]? =some (.row g d len z)\/ρ[id]? =some .emp:=by
         intro l J V;induction V with
         |nil=>intro h;simp[g_]at h
         |@cons t u l J C _ ih=>
          intro h;simp[g_,A7]at h;rcases h with h|h
          .obtain⟨us',T,m⟩:=eh.cells C;clear C T;generalize t.cells=q at h m;induction m with
           |nil=>simp[gb]at h
           |@cons a' v' _ _ y _ B=>
            cases a'<;>simp[gb,v7]at h;case own j=>
             rcases h with rfl|h
             .rcases y with⟨g,d,len,z,y,_⟩|⟨y,_⟩
              .exact⟨g,d,len,z,.inl y⟩
              exact⟨0,0,0,0,.inr y⟩
             exact B h
            case sub j o k=>
             rcases h with rfl|h
             .rcases y with⟨g,d,len,z,y,_⟩|⟨y,_⟩
              .exact⟨g,d,len,z,.inl y⟩
              exact⟨0,0,0,0,.inr y⟩
             exact B h
            all_goals exact B h
          exact ih h
        obtain⟨g,d,len,z,h6⟩:=this _ _ E D;rw[ho]at I;obtain⟨g',vs',rfl,_⟩:=I;rcases h6 with h6|h6<;>rw[U]at h6<;>cases h6
       |s6 s0 f0=>
        exfalso;have:∀(l:List oh) (J:List Value),hY (eh (cx G ρ w) ρ) l J->id∈g_ l->∃g d len z,ρ[id]? =some (.row g d len z)\/ρ[id]? =some .emp:=by
         intro l J V;induction V with
         |nil=>intro h;simp[g_]at h
         |@cons t u l J C _ ih=>
          intro h;simp[g_,A7]at h;rcases h with h|h
          .obtain⟨us',T,m⟩:=eh.cells C;clear C T;generalize t.cells=q at h m;induction m with
           |nil=>simp[gb]at h
           |@cons a' v' _ _ y _ B=>
            cases a'<;>simp[gb,v7]at h;case own j=>
             rcases h with rfl|h
             .rcases y with⟨g,d,len,z,y,_⟩|⟨y,_⟩
              .exact⟨g,d,len,z,.inl y⟩
              exact⟨0,0,0,0,.inr y⟩
             exact B h
            case sub j o k=>
             rcases h with rfl|h
             .rcases y with⟨g,d,len,z,y,_⟩|⟨y,_⟩
              .exact⟨g,d,len,z,.inl y⟩
              exact⟨0,0,0,0,.inr y⟩
             exact B h
            all_goals exact B h
          exact ih h
        obtain⟨g,d,len,z,h6⟩:=this _ _ E D;rw[ho]at I;obtain⟨g',rfl,_⟩:=I;rcases h6 with h6|h6<;>rw[U]at h6<;>cases h6
       |loc=>
        have:=oX.1 hrw id D;obtain⟨t,s,xs,e⟩:=this;rw[hO,ho]at e;cases e
       |r9 l0=>
        exfalso;have:∀(l:List oh) (J:List Value),hY (eh (cx G ρ w) ρ) l J->id∈g_ l->∃g d len z,ρ[id]? =some (.row g d len z)\/ρ[id]? =some .emp:=by
         intro l J V;induction V with
         |nil=>intro h;simp[g_]at h
         |@cons t u l J C _ ih=>
          intro h;simp[g_,A7]at h;rcases h with h|h
          .obtain⟨us',T,m⟩:=eh.cells C;clear C T;generalize t.cells=q at h m;induction m with
           |nil=>simp[gb]at h
           |@cons a' v' _ _ y _ B=>
            cases a'<;>simp[gb,v7]at h;case own j=>
             rcases h with rfl|h
             .rcases y with⟨g,d,len,z,y,_⟩|⟨y,_⟩
              .exact⟨g,d,len,z,.inl y⟩
              exact⟨0,0,0,0,.inr y⟩
             exact B h
            case sub j o k=>
             rcases h with rfl|h
             .rcases y with⟨g,d,len,z,y,_⟩|⟨y,_⟩
              .exact⟨g,d,len,z,.inl y⟩
              exact⟨0,0,0,0,.inr y⟩
             exact B h
            all_goals exact B h
          exact ih h
        obtain⟨g,d,len,z,h6⟩:=this _ _ E D;rw[ho]at I;obtain⟨g',rfl,_⟩:=I;rcases h6 with h6|h6<;>rw[U]at h6<;>cases h6
       |A8 t0 s0 n0 xs0=>
        exfalso;have:∀(l:List oh) (J:List Value),hY (eh (cx G ρ w) ρ) l J->id∈g_ l->∃g d len z,ρ[id]? =some (.row g d len z)\/ρ[id]? =some .emp:=by
         intro l J V;induction V with
         |nil=>intro h;simp[g_]at h
         |@cons t u l J C _ ih=>
          intro h;simp[g_,A7]at h;rcases h with h|h
          .obtain⟨us',T,m⟩:=eh.cells C;clear C T;generalize t.cells=q at h m;induction m with
           |nil=>simp[gb]at h
           |@cons a' v' _ _ y _ B=>
            cases a'<;>simp[gb,v7]at h;case own j=>
             rcases h with rfl|h
             .rcases y with⟨g,d,len,z,y,_⟩|⟨y,_⟩
              .exact⟨g,d,len,z,.inl y⟩
              exact⟨0,0,0,0,.inr y⟩
             exact B h
            case sub j o k=>
             rcases h with rfl|h
             .rcases y with⟨g,d,len,z,y,_⟩|⟨y,_⟩
              .exact⟨g,d,len,z,.inl y⟩
              exact⟨0,0,0,0,.inr y⟩
             exact B h
            all_goals exact B h
          exact ih h
        obtain⟨g,d,len,z,h6⟩:=this _ _ E D;rw[ho]at I;obtain⟨g',vs',rfl,_⟩:=I;rcases h6 with h6|h6<;>rw[U]at h6<;>cases h6
       |row t s xs=>
        rw[ho]at I hO;obtain⟨h6,_,h7⟩:=I;refine⟨s,sa hO D,?_⟩;rcases h7 with⟨rfl,_⟩|⟨g,d,K,sp,rfl,h8,_⟩
        .cases h5
        cases h5;exact⟨_,t,(0,0),(hk.block _ S.2.1 aa).trans h8,h6⟩
      left;exact⟨C,V,λhz=>y (.inl hz)⟩
     have hpd:∀{b:AV} {u:Value},Pd (cx ⟨G.shp,G.B0,Z'⟩ (eu ρ σ) Z) b u->(∀sb∈gE H (g_ args),Vg 5 sb b=true)->Pd (cx G ρ Z) b u:=λS hn=>Pd.SO (c:=cx ⟨G.shp,G.B0,Z'⟩ (eu ρ σ) Z) (c':=cx G ρ Z) (gE H (g_ args)) rfl rfl rfl hS S 5 hn;refine Rd.nH (λ_ hp=>hpd hp λsb hsb=>Rm (hno5 sb hsb)) (λs x o e=>?_) (λk cs J e h=>h.unl (c:=cx ⟨G.shp,G.B0,Z'⟩ (eu ρ σ) Z) (c':=cx G ρ Z) rfl rfl rfl hS λsb hsb=>e▸hno5 sb hsb) (λi hi r hr hne=>gF hr hne) hu;subst e
     have hnil:gE H (g_ args)=[]:=by
      cases hq:gE H (g_ args)with
      |nil=>rfl
      |cons b l=>have:=hno5 b (by rw[hq];simp);simp[AV.no]at this
     rw[hnil]at hS;have hS':(cx ⟨G.shp,G.B0,Z'⟩ (eu ρ σ) Z).le (cx G ρ Z):=⟨rfl,rfl,λb S=>⟨(hS b S).resolve_right λ⟨_,sb,h,_⟩=>by simp at h,rfl⟩,λ_ _ _=>rfl⟩;obtain⟨A,K,k1,k2,k3,e⟩:=hu;exact⟨A,K,(hS'.S _ k1).1,k2,k3.ed hS',e⟩
    subst hv;show Rt (cx G ρ Z) ρ (Jw (kq (λj=>σ.getD j 0) rs)) (DK J);generalize kq (λj=>σ.getD j 0) rs=rs' at hback⊢;cases hback with
    |nil=>exact⟨[],rfl,.nil⟩
    |@cons t u l J C Q=>
     cases Q with
     |nil=>exact C
     |cons y U=>exact⟨_,rfl,.cons C (.cons y U)⟩
   cases h
  cases h
 cases h
end
def Yields(P:Program)n(F:Fr)(w:World)(b:Op)(c:TypeId)(d:Value->World->Prop):=
 (∃v e,aW P n F w b c v e/\d v e)\/(∃f args,Enters P n F w b c f args/\mT P f args w d)
def Yields.mono{P:Program}{n:Nat}{F:Fr}{w:World}{e:Op}{g:TypeId}{k l:Value->World->Prop}(h:Yields P n F w e g k)(m:∀v b,k v b->l v b):Yields P n F w e g l:=by
 rcases h with⟨v,b,c,d⟩|⟨f,args,c,d⟩
 .exact .inl ⟨v,b,c,m _ _ d⟩
 exact .inr ⟨f,args,c,d.mono m⟩
section
variable{P:Program}{n:Nat}{fr:Fr}{w:World}{x y:Operand}{ty t t' e:TypeId}
def R.TR{v:Value}{c:Cx}{d:List UInt8}(D:c.w=w)(F:ev fr x=some v)(p:P.underlying t=some (.slice e))(q:P.underlying t'=some .string)(s:P.underlying e=some (.int .u8))(h:H8 c .u8 d v):
  aW P n fr w (.convert t t' x) ty (⟨d⟩:n9).val w:=λ_ _ _ _ _ G=>by
 obtain⟨a,k,f,rfl,u,z,L,B⟩:=h.ex;have o:f=d.map λb=>Value.int .u8 b.toNat:=by
  have:∀(l:List UInt8) (m:List Value),r6 c (l.flatMap (cellsOf .u8)) m->m=l.map λb=>Value.int .u8 b.toNat:=by
   intro l;induction l with
   |nil=>intro m h;cases h;rfl
   |cons b l H=>
    intro m h;cases h with
    |cons u z=>cases u;rw[H _ z];rfl
  grind
 have g:(convert t t' (.slice a d k)).run P w=.ok (.string ⟨d.toArray⟩) w:=by
  cases a with
  |none=>
   have I:d=[]:=by
    grind
   subst I;rw[run_convert_bytes_string w t t' e none _ k p s q];rfl
  |some A=>
   refine run_convert_bytes_back w t t' e A k d p s q λj J=>?_;rcases B with B|⟨i,K,_,C⟩
   .grind
   cases K;rw[o,D]at C;exact C j _ (by simp[J])
 simp[execOp,G.ev F,g,n9.val]
def R.UK{s:n9}(p:ev fr x=some s.val)(q:s.b.length<=140737488355328)(B:P.underlying t=some .string)(D:P.underlying t'=some (.slice e))(F:P.underlying e=some (.int .u8)):
  ∃a k f,aW P n fr w (.convert t t' x) ty (.slice a s.b k) f/\Kp [] w f/\s.b<=k/\k<=maxLen/\a=some ⟨w.heap.size,0,none⟩/\w.heap.size<f.heap.size/\j0 f ⟨w.heap.size,0,none⟩ (s.b.map λb=>Value.int .u8 b.toNat)/\∃C G,f.heap[w.heap.size]? =some (.cells C e G):=by
 have c:=run_bytes_of_string w t t' e ⟨s.b.toArray⟩ B D F;have g:(⟨s.b.toArray⟩:ByteArray).size=s.b:=by simp[ByteArray.size]
 have h:=grownCap_ge w (⟨s.b.toArray⟩:ByteArray).size 0 e;have l:=grownCap_le_maxLen w (⟨s.b.toArray⟩:ByteArray).size 0 e (by rw[g];simp[maxLen];omega);generalize u:grownCap w (⟨s.b.toArray⟩:ByteArray).size 0 e=cap at*;generalize H:bytesRow ⟨s.b.toArray⟩ cap=C at c;have d:(w.drew.alloc (.cells C e (C.size,C.size+1))).heap[w.heap.size]? =some (.cells C e (C.size,C.size+1)):=M5 w.drew _;refine⟨some ⟨w.heap.size,0,none⟩,cap,w.drew.alloc (.cells C e (C.size,C.size+1)),λa _ _ _ _ I=>?_,?_,h,l,rfl,aa,λj v z=>?_,C,_,d⟩
 .rw[g]at c;simp[n9.val]at p;simp[execOp,I.ev p,c]
 .have:=Kp.alloc w.drew (.cells C e (C.size,C.size+1));exact⟨this.os,this.tape,this.output,this.size,this.block⟩
 rw[add_lit,A3,cell_of_row _ w.heap.size j C _ _ d];subst H;simp at z;obtain⟨b,m,rfl⟩:=z;have A:=(sy.1 m).1;rw[r5 A]at m;have o:=D4 m;simp[bytesRow,A,Array.getElem?_append,o]
def pF(s:n9):(⟨s.b.toArray⟩:ByteArray).size=s.b:=by simp[ByteArray.size]
variable{k:IntKind}{z:Operand}
def R.apD{s:n9}(c:ev fr x=some s.val)(g:ev fr z=some (.int k i))(d:P.underlying t=some .string)(l:i<=s.b):aW P n fr w (.slice t x (some z) none none) ty (⟨s.b.drop i⟩:n9).val w:=λ_ _ _ _ _ f=>by
 have h:=run_sliceAt_string (P:=P) w t (.string ⟨s.b.toArray⟩) (some (.int k i)) none none d;have:=run_slice_string_l (P:=P) w t ⟨s.b.toArray⟩ d k i N (by rw[pF];omega);have e:s.cut i s.b=⟨s.b.drop i⟩:=by simp[n9.cut,<-length_drop]
 rw[<-e,<-n9.yG s i s.b];rw[pF,G3]at this;simp[n9.val]at c;simp[execOp,f.ev c,f.ev g,h,this]
def R.ald{s:n9}{c:IntKind}{g:Operand}(h:ev fr x=some s.val)(m:ev fr z=some (.int k i))(d:ev fr g=some (.int c j))(l:P.underlying t=some .string)(o:i<=j)(q:j<=s.b):aW P n fr w (.slice t x (some z) (some g) none) ty (⟨(s.b.drop i).take (j-i)⟩:n9).val w:=λ_ _ _ _ _ f=>by
 have p:=run_sliceAt_string (P:=P) w t (.string ⟨s.b.toArray⟩) (some (.int k i)) (some (.int c j)) none l;have:=run_slice_string (P:=P) w t ⟨s.b.toArray⟩ k c i j l N N (by rw[pF];omega);have e:(⟨(s.b.drop i).take (j-i)⟩:n9)=s.cut i j:=rfl;rw[e,<-n9.yG s i j];simp[n9.val]at h;simp[execOp,f.ev h,f.ev m,f.ev d,p,this]
def R.akR{s:n9}(c:ev fr x=some s.val)(d:ev fr z=some (.int k j))(f:P.underlying t=some .string)(g:j<=s.b):aW P n fr w (.slice t x none (some z) none) ty (⟨s.b.take j⟩:n9).val w:=by
 have:=R.aqi (P:=P) (n:=n) (w:=w) (ty:=ty) c d f g;have e:s.cut 0 j=⟨s.b.take j⟩:=by simp[n9.cut]
 rwa[e]at this
def R.aky{s:n9}(c:ev fr x=some s.val)(f:ev fr y=some (.int k i))(g:P.underlying t=some .string)(h:i<s.b):aW P n fr w (.index t x y) ty (.int .u8 ((s.b.getD i 0).toNat:Int)) w:=λ_ _ _ _ _ d=>by
 have:=run_index_string (P:=P) w t ⟨s.b.toArray⟩ k i g;rw[dif_pos ⟨N,by rw[pF];omega⟩]at this;simp[n9.val]at c;have e:((⟨s.b.toArray⟩:ByteArray)[(i:Int).toNat]'(by simp[ByteArray.size];omega))=s.b.getD i 0:=by
  rw[getD_eq_getElem?_getD,r5 h];simp[ByteArray.getElem_eq_getElem_data]
 rw[e]at this;simp[execOp,d.ev c,d.ev f,this]
end
section
variable{P:Program}{T:List (Nat×TI)}{G:Gl}{n:Nat}{F:Fr}{w:World}{x y:Operand}{ty t t':TypeId}{ρ:List RE}{H:AH}
def EB(hT:bG P G.shp T){s:Sh}(h:P5 T t=some s):∃e,P.underlying t=some (.slice e)/\G.shp e=some s/\(∃z:List Value,(P.info? e).map (λi=>(i.zero.map Value.cells,i.size,i.bytes))=some (some z.toArray,s.size,s.bytes)/\DT (cellsOf s (c4 s)) z=true)/\(P.info? e).map (·.size)=some s.size/\(s=.u8->P.underlying e=some (.int .u8)/\(P.info? e).bind (·.zero)=some (.int .u8 0)):=by
 unfold P5 at h;split at h
 .rename_i e p sz z d;subst h;let⟨f,g⟩:=(hT _ _ d).2;let⟨k,⟨l,b,m⟩,o⟩:=g s rfl;refine⟨e,f,k,⟨l,b,m⟩,?_,o⟩;cases c:P.info? e with
  |none=>simp[c]at b
  |some i=>simp[c]at b⊢;exact b.2.1
 cases h
def sw{b:AV}{i:Int}{v:Value}{c:Cx}(h:b.ix=some i)(d:Rd c ρ b v):∃k,v=.int k i:=by
 cases b<;>simp[AV.ix]at h<;>cases h
 .cases d with|int=>exact⟨_,rfl⟩
 .cases d with|u8=>exact⟨_,rfl⟩
 cases d with|u64=>exact⟨_,rfl⟩
def MV{c:Cx}{s:Sh}{b:List (l7 s)}{v:Value}{x:l7 s}(h:Pd c (.fz s b) v)(f:b[i]? =some x):∃A k,v=.slice (some A) b k/\i<b/\Rd c ρ (.fe s x 0) (.pointer (some (A.add (i*s.size))))/\∃l,r6 c (cellsOf s x) l:=by
 have m:=(sy.1 f).1;cases h with
 |fz q u z o g=>
  rcases g with g|⟨A,rfl,d,p⟩
  .grind
  have e:=(o.drop (i*s.size)).take s.size;rw[qE f]at e;refine⟨A,_,rfl,m,⟨A.add (i*s.size),_,by rw[iq];exact d.1,(p.shift _).take _,e,by rw[yp]⟩,_,e⟩
def qw{s:Sh}{b:List (l7 s)}(h:i<b):b[i]? =some (b.getD i (c4 s)):=by
 rw[getD_eq_getElem?_getD,r5 h];rfl
def Jz{a:Option Addr}{c s:Nat}{f:Sh}{e:List (l7 f)}{b:List Value}(p:i<=c){A:Addr}(l:a=some A)(d:j0 c'.w A b)(g:c'.at f A.block)(k:r6 c' (e.flatMap (cellsOf f)) ((b.drop (i*s)).take (e*s)))(m:e<=c-i)(q:c<=maxLen)(o:e*f.bytes<=140737488355328):
  Pd c' (.fz f e) (.slice (if c=i then a else a.map (·.add (i*s))) e (c-i)):=by
 refine .fz m N o k ?_;by_cases h:c=i
 .simp_all
 right;rw[X h,l];exact⟨A.add (i*s),rfl,by rw[iq];exact g,(d.shift _).take _⟩
variable{va:Value}{r:PR}
def Kj(hT:bG P G.shp T)(Q:pe G ρ H w){c:Sh}{i:Int}{k:IntKind}(S:P5 T t=some c)(h:vq H c a i=some r)(b:∀p∈r.ob,p)(I:Rd (cx G ρ w) ρ a va)(J:ev F x=some va)(K:ev F y=some (.int k i)):
  ∃v,aW P n F w (.indexAddr t x y) ty v w/\Rt (cx G ρ w) ρ r.v v/\∀p∈r.fc,p:=by
 let⟨e,L,_,_,f,_⟩:=EB hT S;cases a with
 |fz s l=>
  simp[vq]at h;split at h
  .rename_i m;cases h;have o:=C6 m;subst o;have q:=b _ A9;have U:=b _ (x9 _ (v8 _));obtain⟨j,rfl⟩:=y6 q;have d:j<l:=by omega
   obtain⟨A,m1,rfl,_,u,E,z⟩:=MV (ρ:=ρ) I (qw d);exact⟨_,R.lL J K L f rfl d,u,z.qZ⟩
  cases h
 |own id=>
  simp[vq]at h;split at h
  .rename_i Z s l V;split at h
   .rename_i m;cases h;have o:=C6 m;subst o;have q:=b _ A9;have U:=b _ (x9 _ (v8 _));obtain⟨j,rfl⟩:=y6 q;have d:j<l:=by omega
    rcases cS Q V with⟨_,rfl⟩|⟨g,B,C,sp,v6,h3,v2,h5⟩
    .simp at d
    rcases I with⟨_,_,_,_,D,rfl⟩|⟨D,_⟩
    .rw[v6]at D;cases D;have:=R.lL (P:=P) (n:=n) (w:=w) (ty:=ty) J K L f rfl d;rw[add_lit,A3]at this;have m3:=(v2.drop (j*c.size)).take c.size;rw[qE (qw d)]at m3;exact⟨_,this,⟨g,B,l,c.size,v6,d,rfl⟩,m3.qZ⟩
    grind
   cases h
  cases h
 |_=>simp[vq]at h
def KT(hT:bG P G.shp T){c:Cx}{l h:Option Int}{S U:Option Operand}(d:mU T t a l h=some r)(b:∀p∈r.ob,p)(Z:Rd c ρ a va)(J:ev F x=some va)
  (v6:∀i,l=some i->∃z,S=some z/\ev F z=some (.int .i64 i))(K:l=none->S=none)(m3:∀i,h=some i->∃z,U=some z/\ev F z=some (.int .i64 i))(L:h=none->U=none):
  ∃v,aW P n F w (.slice t x S U none) ty v w/\Rt c ρ r.v v/\r.fc=[]:=by
 cases a with
 |fz s xs=>
  simp[mU]at d;split at d
  .rename_i q y;split at d
   .rename_i H;have e1:q=s:=C6 H;subst e1;obtain⟨e,u,_,_,B,_⟩:=EB hT y;cases Z with
    |@fz _ _ a k cells h1 h2 h3 Q V=>
    have m:∀(i:Nat) (C:List (l7 q)),i<=xs->C<=xs-i->r6 c (C.flatMap (cellsOf q)) ((cells.drop (i*q.size)).take (C*q.size))->Pd c (.fz q C) (.slice (if k=i then a else a.map (·.add (i*q.size))) C (k-i)):=by
     intro i C v2 hy hp;rcases V with V|⟨A,rfl,m1,hc⟩
     .subst V;have h00:([]:List (l7 q)).length=0:=rfl;have:C=[]:=A6 N;subst this;exact .fz (xs:=([]:List (l7 q))) (cells:=[]) aa N aa .nil (.inl rfl)
     exact Jz N rfl hc m1 hp N h2 (rZ h3 N)
    have E:cells=xs.length*q.size:=by rw[<-Q.length,cX]
    split at d
    ·-- from l
     rename_i i;cases d;obtain⟨z,rfl,o⟩:=v6 _ rfl;obtain rfl:=L rfl;have g:=b _ A9;have D:=b _ (x9 _ (v8 _));obtain⟨i,rfl⟩:=y6 g;have v2:i<=xs.length:=by omega
     have:=m i (xs.drop i) v2 aa (by
      rw[length_drop,List.take_of_length_le (by rw[length_drop,E,Nat.sub_mul];omega)];exact c_ Q i)
     rw[length_drop]at this;exact⟨_,R.iZ J o u B rfl v2,this,rfl⟩
    .rename_i j;cases d;obtain⟨z,rfl,o⟩:=m3 _ rfl;obtain rfl:=K rfl;have g:=b _ A9;have D:=b _ (x9 _ (v8 _));obtain⟨j,rfl⟩:=y6 g;have hj:j<=xs.length:=by omega
     have f:(xs.take j).length=j:=by simp;omega
     have:=m 0 (xs.take j) N (by simp;omega) (by
      rw[f,O7,V9];exact cz Q j)
     rw[f]at this;exact⟨_,R.rY J o u B rfl N,this,rfl⟩
    .rename_i i j;cases d;obtain⟨z,rfl,o⟩:=v6 _ rfl;obtain⟨z',rfl,I⟩:=m3 _ rfl;have g:=b _ A9;have D:=b _ (x9 _ A9);have g2:=b _ (x9 _ (x9 _ (v8 _)));obtain⟨i,rfl⟩:=y6 g;obtain⟨j,rfl⟩:=y6 (L1 g D);have f:((xs.drop i).take (j-i)).length=j-i:=by simp;omega
     have:=m i ((xs.drop i).take (j-i)) N (by simp;omega) (by
      rw[f];exact cz (c_ Q i) (j-i))
     rw[f]at this;exact⟨_,R.I_ J o I u B rfl N N,this,rfl⟩
    cases d
   cases d
  cases d
 |str s=>
  simp[mU]at d;split at d
  .rename_i sz z hf;have u:P.underlying t=some .string:=(hT _ _ hf).2;cases Z with
   |str y=>
   split at d
   .cases d;obtain⟨z,rfl,o⟩:=v6 _ rfl;obtain rfl:=L rfl;have g:=b _ A9;have D:=b _ (x9 _ (v8 _));obtain⟨i,rfl⟩:=y6 g;exact⟨_,R.apD J o u N,Pd.str (by simp;omega),rfl⟩
   .cases d;obtain⟨z,rfl,o⟩:=m3 _ rfl;obtain rfl:=K rfl;have g:=b _ A9;have D:=b _ (x9 _ (v8 _));obtain⟨i,rfl⟩:=y6 g;exact⟨_,R.akR J o u N,Pd.str (by simp;omega),rfl⟩
   .cases d;obtain⟨z,rfl,o⟩:=v6 _ rfl;obtain⟨z',rfl,I⟩:=m3 _ rfl;have g:=b _ A9;have D:=b _ (x9 _ A9);have g2:=b _ (x9 _ (x9 _ (v8 _)));obtain⟨i,rfl⟩:=y6 g;obtain⟨j,rfl⟩:=y6 (L1 g D);exact⟨_,R.ald J o I u N N,Pd.str (by simp;omega),rfl⟩
   cases d
  cases d
 |_=>simp[mU]at d
def Yy(hT:bG P G.shp T)(J:pe G ρ H w){m:Int}(h:adW T H t a=some m)(l:Rd (cx G ρ w) ρ a va)(d:ev F x=some va):aW P n F w (.call {callee:=.builtin .len,args:=#[x],argTypes:=#[t]}) ty (.int .i64 m) w/\W m:=by
 have f:∀k:Nat,k<=maxLen->W k:=λk S=>by simp[maxLen]at S;exact⟨N,N⟩
 unfold adW at h;split at h
 .rename_i s K e B sz z c;cases h;cases l with
  |fz p q v6 U V=>exact⟨R.len d (hT _ _ c).2.1,f _ (zc p q)⟩
 .rename_i s sz z c;cases h;cases l with
  |str v2=>exact⟨R.an9 d (hT _ _ c).2,⟨N,N⟩⟩
 .rename_i b e B sz z c;cases h;cases l with
  |em v2=>exact⟨R.len d (hT _ _ c).2.1,⟨N,N⟩⟩
 .rename_i id e B sz z c;split at h
  .rename_i m1 s K C;cases h;rcases cS J C with⟨D,rfl⟩|⟨g,I,o,E,q,v6,U,V,u,m3⟩
   .rcases l with⟨_,_,_,_,u,_⟩|⟨_,a,rfl⟩
    .rw[D]at u;cases u
    exact⟨R.len d (hT _ _ c).2.1,⟨aa,aa⟩⟩
   rcases l with⟨_,_,_,_,v,rfl⟩|⟨v,_⟩
   .rw[q]at v;cases v;exact⟨R.len d (hT _ _ c).2.1,f _ (zc u m3)⟩
   rw[q]at v;cases v
  cases h
 .rename_i id Z len e B sz z c;split at h
  .rename_i m1 s K C;cases h;rcases l with⟨g,I,L,j,p,q,rfl⟩|⟨_,_,rfl,a,rfl⟩
   .refine⟨R.len d (hT _ _ c).2.1,?_⟩;rcases cS J C with⟨D,_⟩|⟨r,Q,o,E,v6,_,_,_,u,m3⟩
    .rw[D]at p;cases p
    grind
   exact⟨R.len d (hT _ _ c).2.1,⟨aa,aa⟩⟩
  cases h
 next y e B sz z c=>cases h;obtain⟨us,p,A,rfl,q,_⟩:=l;have i:=p.length;rw[i];exact⟨R.len d (hT _ _ c).2.1,⟨N,N⟩⟩
 cases h
end
end Go.Proofs.YtoecbhljidgajaaGreat
namespace Go.Proofs.YtoecbhljidgajaaGreat
open Go.RowKit
open Go.MapKept (IsKey run_checkKey run_findKey run_setObj_map heap_set heap_alloc run_keyThatStays)
def rV{k:Int}:∀{l:List MapEntry} {i:Nat},(∀e∈l,∃k,e.key=.int .i64 k)->
  (∃j e,l[j]? =some e/\e.key=.int .i64 k/\Instr.findNow (.int .i64) (.int .i64 k) l i=some (some (i+j,e.val))/\getM k l=some e.val/\
   ∀v q,getM q (l.modify j λe=>{e with key:=.int .i64 k,val:=v})=if q=k then some v else getM q l)\/
  (Instr.findNow (.int .i64) (.int .i64 k) l i=some none/\getM k l=none/\∀v q b,getM q (l++[{key:=.int .i64 k,val:=v,born:=b}])=if q=k then some v else getM q l)
 |[],i,_=>.inr ⟨rfl,rfl,λv q b=>by
   by_cases a:q=k
   .subst a;simp[getM,rO]
   have:¬(k=q):=λh=>a h.symm;simp[getM,rO,a,this]⟩
 |e::l,i,h=>by
  let⟨g,c⟩:=h e aa;have t:=λx u=>h x (x9 _ u);by_cases m:k=g
  .subst m;refine .inl ⟨0,e,rfl,c,?_,?_,λv q=>?_⟩
   .simp[Instr.findNow,c,Instr.sameNow]
   .simp[getM,rO,c]
   by_cases a:q=k
   .subst a;simp[getM,rO]
   have d:¬(k=q):=λh=>a h.symm;simp[getM,rO,c,a,d]
  have s:(k==g)=false:=by simpa using m
  have f:¬(g=k):=λh=>m h.symm;rcases rV (k:=k) (i:=i+1) t with⟨j,w,n,o,p,r,y⟩|⟨n,o,p⟩
  .refine .inl ⟨j+1,w,n,o,?_,?_,λv q=>?_⟩
   .simp[Instr.findNow,c,Instr.sameNow,s,p];omega
   .simp[getM,rO,c,f,r]
   by_cases a:q=g
   .subst a;simp[getM,rO,c,f]
   have d:¬(g=q):=λh=>a h.symm;have:=y v q;simp[getM,rO,c,d];grind
  refine .inr ⟨?_,?_,λv q b=>?_⟩
  .simp[Instr.findNow,c,Instr.sameNow,s,n]
  .simp[getM,rO,c,f,o]
  by_cases a:q=g
  .subst a;simp[getM,rO,c,f]
  have d:¬(g=q):=λh=>a h.symm;have:=p v q b;simp[getM,rO,c,d];simpa using this
section
variable{P:Program}{n:Nat}{F:Fr}{w:World}{x y z':Operand}{t ty kt et:TypeId}{g c:Nat}{k:Int}{a:Array MapEntry}
def R.tO{z:Value}(ok:Bool)(p:ev F x=some (.map (some g)))(q:ev F y=some (.int .i64 k))(r:P.underlying t=some (.map kt et))(d:P.underlying kt=some (.int .i64))(f:(P.info? et).bind (·.zero)=some z)(m:w.heap[g]? =some (.map a c))(s:∀e∈a.toList,∃k,e.key=.int .i64 k):
  aW P n F w (.lookup t x y ok) ty (if ok then .tuple #[(getM k a.toList).getD z,.bool (getM k a.toList).isSome]else(getM k a.toList).getD z) w:=λv _ _ _ _ o=>by
 have b:IsKey (.int .i64) (.int .i64 k):=rfl;have A:(zeroValue et).run P w=.ok z w:=by
  cases h:P.info? et with
  |none=>simp[h]at f
  |some i=>simp[h]at f;simp[zeroValue,typeInfo,h,f]
 have e:(Instr.lookup t (.map (some g)) (.int .i64 k) ok).run P w=.ok (if ok then .tuple #[(getM k a.toList).getD z,.bool (getM k a.toList).isSome]else(getM k a.toList).getD z) w:=by
  unfold Instr.lookup;simp only[T4,C0 r];rcases rV (k:=k) (i:=0) s with⟨j,B,_,_,l,u,_⟩|⟨l,u,_⟩
  .simp[Q6 m,run_checkKey d b,run_findKey d l];grind
  simp[Q6 m,Result.andThen,run_checkKey d b,run_findKey d l];grind
 simp[execOp,o.ev p,o.ev q,e]
def R.uG:aW P n F w (.makeMap t none) ty (.map (some w.heap.size)) (w.alloc (.map #[] 0)):=λa _ _ _ _ b=>by
 simp[execOp,Instr.makeMap]
def YY{v:Value}(B:ev F x=some (.map (some g)))(C:ev F y=some (.int .i64 k))(D:ev F z'=some v)(G:P.underlying t=some (.map kt et))(s:P.underlying kt=some (.int .i64))(p:w.heap[g]? =some (.map a c))(H:∀e∈a.toList,∃k,e.key=.int .i64 k):
  ∃d b f,(jJ P n F w (.insert t x y z') ty d/\jJ P n F w (.mapUpdate t x y z') ty d)/\Kp [g] w d/\d.heap[g]? =some (.map b f)/\(∀e∈b.toList,∃k,e.key=.int .i64 k)/\∀q,getM q b.toList=if q=k then some v else getM q a.toList:=by
 have l:IsKey (.int .i64) (.int .i64 k):=rfl;have r:∀b f,(Instr.mapUpdate t (.map (some g)) (.int .i64 k) v).run P w=.ok () {w with heap:=w.heap.setIfInBounds g (.map b f)}->(∀e∈b.toList,∃k,e.key=.int .i64 k)->(∀q,getM q b.toList=if q=k then some v else getM q a.toList)->
   ∃d b f,(jJ P n F w (.insert t x y z') ty d/\jJ P n F w (.mapUpdate t x y z') ty d)/\Kp [g] w d/\d.heap[g]? =some (.map b f)/\(∀e∈b.toList,∃k,e.key=.int .i64 k)/\∀q,getM q b.toList=if q=k then some v else getM q a.toList:=by
  intro b f e o I;have J:=heap_set (o':=.map b f) p;refine⟨{w with heap:=w.heap.setIfInBounds g (.map b f)},b,f,⟨λu _ _ _ _ m=>?_,λu _ _ _ _ m=>?_⟩,⟨rfl,rfl,rfl,aa,λi Q K=>J.2 i (by simpa using K)⟩,by simpa using J.1,o,I⟩
  .simp[execOp,m.ev B,m.ev C,m.ev D,e]
  simp[execOp,m.ev B,m.ev C,m.ev D,e]
 rcases rV (k:=k) (i:=0) H with⟨j,L,R,Z,o,_,I⟩|⟨o,_,S⟩
 .have z:a[j]? =some L:=by simpa using R
  refine r (a.modify j λe=>{e with key:=.int .i64 k,val:=v}) c ?_ ?_ ?_
  .rw[A3]at o;simp[Instr.mapUpdate,C0 G,Q6 p,run_checkKey s l,run_findKey s o,z,Z,run_keyThatStays l,run_setObj_map _ p,Result.andThen]
  .intro e A;rcases MapFrom.mem_modify A with h|⟨T,_,rfl⟩
   .exact H e h
   grind
  grind
 refine r (a.push {key:=.int .i64 k,val:=v,born:=c}) (c+1) ?_ ?_ ?_
 .simp[Instr.mapUpdate,C0 G,Q6 p,run_checkKey s l,run_findKey s o,run_setObj_map _ p,Result.andThen]
 .grind
 grind
end
section
variable{c:Cx}{ρ:List RE}{s:Sh}{x:l7 s}{v:Value}
def QT{s:Sh}(h:s.rT=false)(x:l7 s):∃a,cellsOf s x=[a]:=by
 cases s<;>first|exact⟨_,rfl⟩|cases h
def V1.rt(h:V1 c s x v):eh c ρ (Tp s x) v:=by
 obtain⟨f,b,⟨d,rfl⟩|⟨d,rfl⟩⟩:=h
 .simp[Tp,d];exact⟨f,rfl,jb b⟩
 let⟨a,e⟩:=QT d x;simp[Tp,d,e];rw[e]at b;cases b with|cons b _=>exact mF b
def V1.zero{z:Value}{a:List Value}(b:DT (cellsOf s (c4 s)) a=true)(h:(s.rT=true/\z=.agg a.toArray)\/(s.rT=false/\a=[z])):V1 c s (c4 s) z:=
 ⟨a,lO (ρ:=[]) (sW s _) (lJ b),h⟩
end
end Go.Proofs.YtoecbhljidgajaaGreat
namespace Go.Proofs.YtoecbhljidgajaaGreat
open Go.RowKit
def lz:Value->Lit
 |.int k n=>.int k n
 |.bool b=>.bool b
 |.string s=>.string s.data.toList
 |_=>.bool false
def akL(k:LK)(v:Value):=match k,v with
 |.i q,.int a n=>a=q/\(Lit.int q n).wf=true
 |.b,.bool _=>True
 |.s,.string s=>s.size<=maxLen
 |_,_=>False
def ml:List LK->List Value->Prop
 |[],[]=>True
 |k::r,v::l=>akL k v/\ml r l
 |_,_=>False
theorem ml.len:∀{a:List LK} {b:List Value},ml a b->b=a.length
 |[],[],_=>rfl
 |_::_,_::_,h=>by rw[x7,x7,ml.len h.2]
theorem ml.split:∀{ks l:List LK} {a:List Value},ml (ks++l) a->ml ks (a.take ks)/\ml l (a.drop ks)
 |[],_,_,h=>⟨trivial,h⟩
 |_::ks,l,_::a,h=>by
  let⟨b,c⟩:=ml.split (ks:=ks) h.2;exact⟨⟨h.1,b⟩,c⟩
section
variable{P:Program}
def x_{g:TypeId->Option (List LK)}{d:Nat}(e:∀t a b,g t=some a->ml a b->P.keyLits d t b=some (b.map lz)){cs:List Value}:∀{F:List Go.Field} {o:Nat} {a:List LK},UU P g F o=some a->ml a (cs.drop o)->
  (F.mapM λf=>P.keyLits d f.type ((cs.drop f.offset).take (P.cellsOf f.type))).map List.flatten=some ((cs.drop o).map lz)/\(∀f∈F,(f.name != "_")=true)
 |[],o,a,h,k=>by
  cases h;have:cs.drop o=[]:=by
   have n:=ml.len k;grind
  grind
 |f::F,o,a,h,k=>by
  simp[UU]at h;split at h
  .rename_i p i;split at h
   .rename_i l j m;cases h;simp at j;let⟨q,c⟩:=ml.split k;rw[J1]at c;let⟨r,s⟩:=x_ e m c;refine⟨?_,λx u=>?_⟩
    .grind[Option.map_eq_some_iff,flatten_cons,List.drop_drop,List.take_append_drop]
    grind
   cases h
  cases h
def rQ:∀d (t:TypeId) (f:List LK) (a:List Value),Ut P d t=some f->ml f a->P.keyLits d t a=some (a.map lz)
 |0,_,_,_,h,_=>by cases h
 |d+1,t,f,a,h,k=>by
  unfold Ut at h;unfold Program.keyLits;split at h
  .rename_i q c;cases h;match a,k with
   |[.int u n],⟨⟨g,m⟩,_⟩=>subst g;simp[c,m,lz]
  .rename_i c;cases h;match a,k with
   |[.bool b],_=>simp[c,lz]
  .rename_i c;cases h;match a,k with
   |[.string s],⟨g,_⟩=>
    have g:s.size<=maxLen:=g;simp[c,lz,g]
  .rename_i F c;split at h
   .rename_i l p;split at h
    .rename_i j;cases h;have j:=C6 j;have i:=ml.len k;let⟨v,w⟩:=x_ (λt f a=>rQ d t f a) (cs:=a) (o:=0) p (by simpa using k);have r:F.all (·.name != "_")=true:=by grind
     have x:a=P.cellsOf t/\F.all (·.name != "_")=true:=⟨by rw[i,j],r⟩;rw[c];split
     next e=>cases e
     next e=>cases e
     next e=>cases e
     next e=>cases e
     .grind
     grind
    cases h
   cases h
  cases h
def pT{c:Cx}{j:List RE}:∀{d:List AV} {i:List Value} {f:List LK},P1 d=some f->hY (Rd c j) d i->ml f i
 |[],_,_,h,k=>by cases h;cases k;trivial
 |a::r,_,f,h,k=>by
  cases k with
  |cons e m=>
   simp[P1]at h;split at h
   .rename_i q l n o;cases h;refine⟨?_,pT o m⟩;cases a<;>cases n
    .cases e with|int g=>exact⟨rfl,by unfold W at g;simp[Lit.wf,IntKind.min,IntKind.bits,IntKind.signed];omega⟩
    next b=>have:=b.toNat_lt;cases e with|u8=>exact⟨rfl,by simp[Lit.wf,IntKind.min,IntKind.max,IntKind.bits,IntKind.signed];omega⟩
    .cases e with|u64 g=>exact⟨rfl,by simp[Lit.wf,IntKind.min,IntKind.max,IntKind.bits,IntKind.signed];omega⟩
    .cases e with|bool=>trivial
    cases e with|str g=>exact(by simp[akL,n9.val,maxLen,ByteArray.size];omega)
   cases h
variable{ρ:List RE}
def Bs{c:Cx}{a b:AV}{u v:Value}{e:BE}(h:Vs a b=some e)(d:Rd c ρ a u)(f:Rd c ρ b v):e.val=true↔lz u=lz v:=by
 unfold Vs at h;split at h<;>cases h
 .cases d;cases f;simp[BE.val,lz]
 .cases d;cases f;simp[BE.val,lz]
 .cases d;cases f;simp[BE.val,lz]
 .cases d;cases f;simp[BE.val,lz]
 rename_i s g;cases d;cases f;cases s;cases g;simp[BE.val,lz,n9.val]
def v_{c:Cx}{ρ:List RE}:∀{j n:List AV} {o p:List Value} {e:BE},JW j n=some e->hY (Rd c ρ) j o->hY (Rd c ρ) n p->(e.val=true↔o.map lz=p.map lz)
 |[],[],_,_,_,h,k,m=>by cases h;cases k;cases m;simp[BE.val]
 |[a],[b],_,_,_,h,k,m=>by
  cases k with|cons d f=>cases f;cases m with|cons g i=>cases i;simpa using Bs h d g
 |[a],b::q::l,_,_,_,h,_,_=>by
  simp only[JW]at h;grind
 |a::s::r,[b],_,_,_,h,_,_=>by
  simp only[JW]at h;grind
 |a::s::r,b::q::l,_,_,_,h,k,m=>by
  simp[JW]at h;split at h
  .rename_i x y t u;cases h;cases k with|cons d f=>
   cases m with|cons g i=>
   have v:=Bs t d g;have w:=v_ u f i;simp[BE.val,v,w]
  cases h
variable{t:TypeId}{w:World}
def IC{a:List LK}{b c:List Value}(h:Y6 P t a=true)(e:ml a b)(f:ml a c)(j:∃F,P.underlying t=some (.struct F)):
  P.eqGuardType P.depth t=false/\∃r:Bool,(Op.equalIn 10000 t (.agg b.toArray) (.agg c.toArray)).run P w=.ok r w/\(r=true↔b.map lz=c.map lz):=by
 simp[Y6]at h;let⟨⟨d,k⟩,l⟩:=h;let⟨F,g⟩:=j;have i:P.cellsOf t=a:=by
  unfold Ut at d;grind
 refine⟨l,?_⟩;have:=run_equalIn_deep (P:=P) 9992 8 t k w 8 8 (.agg b.toArray) (.agg c.toArray) (b.map lz) (c.map lz)
  (by simp[Value.formed,g,i,e.len]) (by simp[Value.formed,g,i,f.len])
  (by simpa[Value.cells] using rQ 8 t a b d e) (by simpa[Value.cells] using rQ 8 t a c d f)
 exact this
def Wm{T:List (Nat×TI)}{G:Gl}{n:Nat}{F:Fr}{x y:Operand}{ty t':TypeId}{c:Cx}(hT:bG P G.shp T){u:BinOp}{f A:List AV}{r:PR}{B C:List Value}(h:eqG T u t f A=some r)(m:hY (Rd c ρ) f B)(o:hY (Rd c ρ) A C)(D:ev F x=some (.agg B.toArray))(H:ev F y=some (.agg C.toArray)):
  ∃v,aW P n F w (.binOp u t x y t') ty v w/\Rt c ρ r.v v/\r.fc=[]:=by
 unfold eqG at h;split at h
 .rename_i R sz z K;let⟨Fs,I,_,_,hE,_⟩:=(hT _ _ K).2;split at h
  .rename_i k S Q L g i;have J:=hE _ L;split at h
   next e j p=>simp at j;obtain⟨rfl,rfl⟩:=j;cases h;let⟨q,b,a,d⟩:=IC (w:=w) J (pT g m) (pT i o) ⟨Fs,I⟩;have s:=E8.2 (d.trans (v_ p m o).symm);subst s;refine⟨_,λ_ _ _ _ _ l=>?_,Pd.bool (e:=e),rfl⟩;simp[execOp,l.ev D,l.ev H,run_eqGuard_agg w .eql t x y _ _ q,run_eql_struct,a]
   next e j p=>simp at j;obtain⟨rfl,rfl⟩:=j;cases h;let⟨q,b,a,d⟩:=IC (w:=w) J (pT g m) (pT i o) ⟨Fs,I⟩;have s:=E8.2 (d.trans (v_ p m o).symm);subst s;refine⟨_,λ_ _ _ _ _ l=>?_,Pd.bool (e:=.not e),rfl⟩;simp[execOp,l.ev D,l.ev H,run_eqGuard_agg w .neq t x y _ _ q,run_neq_struct,a,BE.val]
   cases h
  cases h
 cases h
end
section
variable{P:Program}{T:List (Nat×TI)}{G:Gl}{m3:ic}{n:Nat}{F:Fr}{w:World}{x y:Operand}{ty t t':TypeId}{ρ:List RE}{H:AH}
variable{m:Nat}
theorem eU(h:m<18446744073709551616):IntKind.i64.wrap m=cF m:=by
 unfold cF;simp[IntKind.wrap,IntKind.bits,IntKind.signed];grind
def SH(h:m<18446744073709551616):W (cF m):=by
 unfold cF W;split<;>omega
variable{r:PR}{op:Op}
def y0{v:Value}(h:aW P n F w op ty v w)(b:Rt (cx G ρ w) ρ r.v v)(c:∀p∈r.fc,p):Yields P n F w op ty λv a=>Kp [] w a/\Rt (cx G ρ a) ρ r.v v/\∀p∈r.fc,p:=
 .inl ⟨v,w,h,Kp.refl w,b,c⟩
def uM(h:r.fc=[]):∀p∈r.fc,p:=by rw[h];simp
variable{u:AV}{b:TI}{va:Value}
theorem Tm(hT:bG P G.shp T)(V:pe G ρ H w){a:TI}(ht:bt T t=some a)(E:bt T t'=some b)(h:Oh H a.k b.k u=some r)(K:∀p∈r.ob,p)(j:Rd (cx G ρ w) ρ u va)(A:ev F x=some va):
  Yields P n F w (.convert t t' x) ty λv L=>Kp [] w L/\Rt (cx G ρ L) ρ r.v v/\∀p∈r.fc,p:=by
 have g:=(hT _ _ ht).2;have c:=(hT _ _ E).2;unfold Oh at h;split at h
 .rename_i D J m d f;rw[d]at g;rw[f]at c;cases h;cases j with|int o=>
  have:=R.conv (P:=P) (n:=n) (w:=w) (ty:=ty) A g c
  rw[o.wrap]at this;exact y0 this (Pd.int o) aa
 .rename_i D J m d f;rw[d]at g;rw[f]at c;cases h;cases j with|u8=>
  have hm:=m.toNat_lt;exact y0 (R.aeu A g c) (Pd.int ⟨N,N⟩) aa
 .rename_i D J m d f;rw[d]at g;rw[f]at c;cases h;cases j with|u8=>
  have hm:=m.toNat_lt;exact y0 (R.Ou A g c N) (Pd.u64 N) aa
 .rename_i D J m d f;rw[d]at g;rw[f]at c;cases h;cases j with|int o=>
  have m1:=K _ (v8 _);obtain⟨m,rfl⟩:=y6 m1;exact y0 (R.ae1 A g c) Pd.u8 aa
 .rename_i D J m d f;rw[d]at g;rw[f]at c;cases h;cases j with|int o=>
  have m1:=K _ (v8 _);obtain⟨m,rfl⟩:=y6 m1;have:m<18446744073709551616:=by have:=o.2;omega
  exact y0 (R.Ou A g c this) (Pd.u64 this) aa
 .rename_i D J m d f;rw[d]at g;rw[f]at c;cases h;cases j with|u64 o=>
  exact y0 (R.ae1 A g c) Pd.u8 aa
 .rename_i D J m d f;rw[d]at g;rw[f]at c;cases h;cases j with|u64 o=>
  have:=R.conv (P:=P) (n:=n) (w:=w) (ty:=ty) A g c
  rw[eU o]at this;exact y0 this (Pd.int (SH o)) aa
 .rename_i D J m d f;rw[d]at g;rw[f]at c;cases h;cases j with|u64 o=>
  exact y0 (R.Ou A g c o) (Pd.u64 o) aa
 .rename_i D J e v1 d f;rw[d]at g;rw[f]at c;let⟨v6,z⟩:=g;obtain⟨_,_,U⟩:=z .u8 rfl;split at h
  next xs B=>cases h;have I:=IX V B j;refine y0 (R.TR rfl A v6 c (U rfl).1 I) (Pd.str ?_) aa;have:=I.le;simp[Sh.bytes]at this;show xs.length<=_;omega
  .rename_i b B;cases h;obtain⟨q,j,B⟩:∃q,Rd (cx G ρ w) ρ q va/\q.vw H=.em b:=⟨_,j,B⟩;cases q<;>simp[AV.vw]at B;case em=>
    have I:H8 (cx G ρ w) .u8 [] va:=Pd.aao (Pd.za j) λb hb=>hb.1;exact y0 (R.TR rfl A v6 c (U rfl).1 I) (Pd.str aa) aa
   case own=>split at B<;>cases B
   case sub=>split at B<;>cases B
   all_goals cases B
  cases h
 .rename_i D e s d f;rw[d]at g;rw[f]at c;let⟨Z,y⟩:=c;obtain⟨Q,_,U⟩:=y .u8 rfl;cases h;cases j with|str m3=>
  obtain⟨a,k,L,S,hk,h1,h2,h3,h4,h5,C,fz,h6⟩:=R.UK (P:=P) (n:=n) (fr:=F) (w:=w) (x:=x) (ty:=ty) (t:=t) (t':=t') (s:=s) A m3 g Z (U rfl).1;refine .inl ⟨_,L,S,hk,?_,aa⟩;have hp:r6 (cx G ρ L) (s.b.flatMap (cellsOf .u8)) (s.b.map λb=>Value.int .u8 b.toNat):=by
   generalize s.b=l;induction l with
   |nil=>exact .nil
   |cons b l ih=>exact .cons .u8 ih
  exact Pd.fz (s:=.u8) (xs:=s.b) h1 h2 (by simpa[Sh.bytes] using m3) hp (.inr ⟨_,h3,⟨⟨h4,λ⟨i,r,d,f⟩=>by have:=(V.u0 i r _ d f).2.1;simp at this,λhz=>by have:=V.z _ hz;simp at this⟩,.inr ⟨C,e,fz,h6,Q,(λe=>nomatch e)⟩⟩,h5⟩)
 cases h
def KK d:∀(e:List Value) (j:Nat) (a b:List Value),e<=b.length->a=d+j->
  (e.zipIdx j).foldl (λg (c:Value×Nat)=>g.setIfInBounds (d+c.2) c.1) (a++b).toArray=(a++e++b.drop e).toArray:=by
 intro e;induction e with
 |nil=>intro j a b _ _;simp
 |cons u e h=>
  intro j a b f i;cases b with
  |nil=>simp at f
  |cons k b=>
   simp only[List.zipIdx_cons,List.foldl_cons];have:((a++k::b).toArray.setIfInBounds (d+j) u)=((a++[u])++b).toArray:=by simp[<-i]
   rw[this,h (j+1) (a++[u]) b (by simpa using f) (by simp;omega)];simp
def rD{c:Cx}{x:List (Nat×Nat)}{place:Nat->Option (Nat×Nat)}(s:∀i (q:Nat×Nat),x[i]? =some q->place i=some q):∀{f:List (Nat×oh)} {pv:List (Nat×Value)} {z:List AV} {d:List Value} {l:List AV},hY (λp q=>p.1=q.1/\eh c ρ p.2 q.2) f pv->hY (Rd c ρ) z d->nv x z f=some l->
  ∃g,Instr.fill place d.toArray pv=some (toArray g)/\hY (Rd c ρ) l g
 |[],_,z,d,l,C,A,h=>by
  cases C;cases h;exact⟨d,rfl,A⟩
 |(i,v)::r,_,z,d,l,C,A,h=>by
  cases C with
  |@cons _ q _ Z S U=>
  let⟨b,u⟩:=q;let⟨e,V⟩:=S;simp only at e;subst e;simp[nv]at h;split at h
  .rename_i o k D;split at h
   .rename_i j;simp only[r3]at j;have m:=ts j.1;have n:=G8 j.2;let⟨g,I,a⟩:=eh.cells V;have B:v.cells=g.length:=a.length;have w:=A.length;have J:hY (Rd c ρ) (F3 z o v.cells) (d.take o++g++d.drop (o+g)):=by
     unfold F3;rw[<-B];exact((A.take o).append a).append (A.drop _)
    let⟨K,y,t⟩:=rD s U J h;refine⟨K,?_,t⟩;simp only[Instr.fill,s _ _ D,I];have L:(g.toArray.zipIdx.foldl (λl (c:Value×Nat)=>l.setIfInBounds (o+c.2) c.1) d.toArray)=(d.take o++g++d.drop (o+g)).toArray:=by
     have Q:=KK o g 0 (d.take o) (d.drop o) (by simp;omega) (by simp;omega);rw[E7,J1]at Q;rw[<-Q];simp
    rw[X (by simp;omega)];refine Eq.trans ?_ y;congr 1
   cases h
  cases h
variable{l:List (Nat×oh)}{z cs:List AV}{sz:Nat}{parts:List (Nat×Operand)}
def LH(hT:bG P G.shp T){c:Cx}{d:List (Nat×Nat)}{pv:List (Nat×Value)}(j:bt T t=some ⟨.st d,sz,z⟩)(k:Qk F parts=some pv)(o:hY (λp q=>p.1=q.1/\eh c ρ p.2 q.2) l pv)(h:nv d z l=some cs):
  ∃a,aW P n F w (.build t parts.toArray) ty (.agg (toArray a)) w/\hY (Rd c ρ) cs a:=by
 let⟨⟨s,A,e,f⟩,Fs,B,C,_⟩:=hT _ _ j;let⟨a,D,v⟩:=rD (place:=(d.toArray[·]?)) (λi q g=>by simpa using g) o (lJ f) h;refine⟨a,R.sg k ?_,v⟩;unfold Program.built;cases g:P.info? t with
 |none=>rw[g]at e;simp at e
 |some i=>
  simp only[I0]at e;grind
variable{e:TypeId}
def zN{s:Sh}(hT:bG P G.shp T)(h:R0 T e=some s):s.size=1/\(P.info? e).map (·.size)=some 1/\∃d,P.underlying e=some d/\mn d=false:=by
 unfold R0 at h;split at h<;>cases h<;>rename_i a<;>let⟨⟨c,_⟩,f⟩:=hT _ _ a<;>exact⟨rfl,c,_,f,rfl⟩
theorem xz:∀{n k i:Nat} {q:Nat×Nat},(oL k n)[i]? =some q->q=(k+i,1)
 |n+1,k,0,q,h=>by simp[oL]at h;exact h.symm
 |n+1,k,i+1,q,h=>by
  rw[oL,List.getElem?_cons_succ]at h;rw[xz h,show k+1+i=k+(i+1) by omega]
def uk(hT:bG P G.shp T){c:Cx}{pv:List (Nat×Value)}(o:bt T t=some ⟨.ar m e,sz,z⟩)(a:(P.info? e).map (·.size)=some 1)(s:Qk F parts=some pv)(v:hY (λp q=>p.1=q.1/\eh c ρ p.2 q.2) l pv)(h:nv (oL 0 m) z l=some cs):
  ∃d,aW P n F w (.build t parts.toArray) ty (.agg (toArray d)) w/\hY (Rd c ρ) cs d:=by
 let⟨⟨A,C,f,g⟩,D⟩:=hT _ _ o;let⟨d,I,B⟩:=rD (place:=λi=>some (i*1,1)) (λi q j=>by rw[xz j];simp) v (lJ g) h;refine⟨d,R.sg s ?_,B⟩;unfold Program.built;cases j:P.info? t with
 |none=>rw[j]at f;simp at f
 |some i=>
  simp only[I0]at f;cases k:P.info? e with
  |none=>rw[k]at a;cases a
  |some J=>
   grind
def qm{c:Cx}:∀{l:List oh} {q:List (Nat×Nat)} {j:List Value},nn l=some q->hY (eh c ρ) l j->hY (fw ρ) q j
 |[],_,_,h,d=>by cases h;cases d;exact .nil
 |.c (.ptr id o)::r,q,_,h,d=>by
  simp[nn]at h;split at h
  .rename_i l f;cases h;cases d with
   |cons g i=>exact .cons g (qm f i)
  cases h
 |.c a::r,q,_,h,d=>by
  cases a with
  |ptr id o=>
   simp[nn]at h;split at h
   .rename_i l f;cases h;cases d with
    |cons g i=>exact .cons g (qm f i)
   cases h
  |_=>simp[nn]at h
def zK{c:Cx}:∀{q:List (Nat×Nat)} {a:List Value},hY (fw ρ) q a->hY (eh c ρ) (q.map λq=>.c (.ptr q.1 q.2)) a
 |[],_,h=>by cases h;exact .nil
 |_::_,_,h=>by cases h with|cons d f=>exact .cons d (zK f)
variable{vs:List Value}
def E.SB{f:FuncId}{d:Array TypeId}{a:Func}{i:List Operand}{b c:List Value}{fr:Fr}(k:ev fr x=some (.func (.func f) b.toArray c.toArray))(g:UL fr i=some vs)(o:P.funcs[f]? =some a)(p:(a.name== "runtime.NumGoroutine")=false)(q:a.body.isNone=false):
  Enters P n fr w (.call {callee:=.value x,args:=i.toArray,argTypes:=d}) ty f (b++(vs++c)).toArray:=λ_ _ _ _ _ j=>by
 simp[execOp,resolve,j.ev k,Deferred.ofValue,invoke,callFunc,o,show¬a.name= "runtime.NumGoroutine" by simpa using p,show¬a.body=none by intro h;simp[h]at q,qB j g]
def mS{c:Cx}{fr:lg}(i:r7 c ρ fr F){a:Call}{f:Nat}{l:List oh}(h:jD fr a=some (f,l)):∃x s vs b d,a.callee=.value x/\a.args=toArray s/\ev F x=some (.func (.func f) (toArray b) (toArray d))/\UL F s=some vs/\hY (eh c ρ) l (b++(vs++d)):=by
 unfold jD at h;split at h
 .rename_i x A;split at h
  next g b cs I j k=>cases h;obtain⟨v,o,J,B,C,D,rfl⟩:=az i j;let⟨vs,p,q⟩:=nY i k;exact⟨x,a.args.toList,vs,J,B,A,aa,o,p,(zK C).append (q.append (zK D))⟩
  .rename_i K I j k;split at h
   next g=>cases h;obtain⟨v,o,B,C,D,rfl⟩:=az i j;let⟨vs,p,q⟩:=nY i k;exact⟨x,a.args.toList,vs,[],[],A,aa,o,p,by simpa using q⟩
   cases h
  cases h
 cases h
theorem Ik{s:Sh}:∀{n k:Nat} {a:List (l7 s)},k+n=a->zn s a k n=(a.drop k).flatMap (cellsOf s)
 |0,k,a,h=>by rw[List.drop_eq_nil_of_le N];rfl
 |n+1,k,a,h=>by
  rw[zn,Ik N,K6 (show k<a by omega),G9,getD_eq_getElem?_getD,r5 N];rfl
def mA{c:Cx}{s:Sh}:∀{cs:List AV} {d:List (l7 s)} {g:List Value},wg s cs=some d->hY (Rd c ρ) cs g->r6 c (d.flatMap (cellsOf s)) g
 |[],_,_,h,f=>by cases h;cases f;exact .nil
 |a::r,d,_,h,f=>by
  simp[wg]at h;split at h
  .rename_i x l i j;cases h;cases f with
   |cons k o=>
    exact(ba (vs:=[_]) i (.cons (λp=>(jF p).1 k) .nil)).append (mA j o)
  cases h
variable{k:IntKind}{i:Nat}
def R.ng{cs:List Value}{v:Value}{d:TypeDesc}(h:ev F x=some (.agg cs.toArray))(j:ev F y=some (.int k i))(o:P.underlying t=some (.array m e))(p:P.underlying e=some d)(s:mn d=false)(f:(P.info? e).map (·.size)=some 1)(A:i<m)(B:cs[i]? =some v):
  aW P n F w (.index t x y) ty v w:=λ_ _ _ _ _ g=>by
 cases a:P.info? e with
 |none=>simp[a]at f
 |some q=>
  have c:q.size=1:=by simpa[a] using f
  have C:(Instr.index t (.agg cs.toArray) (.int k i)).run P w=.ok v w:=by
   unfold Instr.index;simp[asIntOf,C0 o,A,part,nZ p,s,sizeOf,typeInfo,a,c,B]
  simp[execOp,g.ev h,g.ev j,C]
def R.jK{g:Nat}(h:ev F x=some (.pointer (some ⟨g,0,none⟩)))(j:ev F y=some (.int k i))(o:P.underlying t=some (.array m e))(d:(P.info? e).map (·.size)=some 1)(s:i<m):
  aW P n F w (.indexAddr t x y) ty (.pointer (some ⟨g,i,none⟩)) w:=λ_ _ _ _ _ f=>by
 cases a:P.info? e with
 |none=>simp[a]at d
 |some q=>
  have c:q.size=1:=by simpa[a] using d
  have p:(Addr.add ⟨g,0,none⟩ i)=⟨g,i,none⟩:=by rw[add_lit,A3]
  simp[execOp,f.ev h,f.ev j,Instr.indexAt,C0 o,asIntOf,Instr.sureAddr,sizeOf,typeInfo,a,c,p];omega
variable{a:AV}
def Mw{c:Cx}{s:Sh}{d:List (l7 s)}{o:Nat}(h:r6 c (d.flatMap (cellsOf s)) vs)(g:s.size=1)(j:o<d)(p:cellsOf s (d.getD o (c4 s))=[a]):∃u,vs[o]? =some u/\Pd c a u:=by
 have f:=(h.drop (o*s.size)).take s.size;rw[qE (qw j),p,g,O8]at f;generalize v:List.take 1 (List.drop o vs)=q at f;cases f with
 |@cons _ u _ A B C=>
  have:=o9 (·[0]?) v;grind
def sH(hT:bG P G.shp T)(E:pe G ρ H w){v:Value}(h:Rd (cx G ρ w) ρ a v)(S:ev F x=some v)(c:tK T H t a=some r)(J:∀p∈r.ob,p):∃u,aW P n F w (.load t x) ty u w/\Rt (cx G ρ w) ρ r.v u/\∀p∈r.fc,p:=by
 unfold tK at c;split at c
 .rename_i id o;split at c
  .rename_i ta s m xs m1;obtain⟨r0,k,g,vs,rfl,Z,K,b,U⟩:=E.at_ (cC m1 aa);obtain⟨g',C,rfl⟩:=h;rw[k]at C;cases C;have L:vs=m:=by rw[<-K.length,cX,b,U,O8]
   have V:=dW (cells:=vs) (sp:=[]) (by rw[A1];exact Z);split at c
   .rename_i m' e sz z q;split at c
    next j=>cases c;simp only[r3]at j;have l:=ts j.1.1.1;have y:=ts j.1.1.2;have m3:=ts j.1.2;subst l;subst y;let⟨⟨v6,_⟩,f⟩:=hT _ _ q;refine⟨.agg vs.toArray,R.aaO S f rfl (by rw[v6,L];exact o9 some m3) V,⟨vs,rfl,?_⟩,aa⟩;rw[Ik N,V9];exact jb K
    cases c
   .rename_i ti _ q;split at c
    .cases c
    .cases c
    .cases c
    .rename_i a' hs1 A n1 n2 n3;simp[pr]at c;subst c;have ho:=J _ (v8 _);let⟨u,hu,D⟩:=Mw K U N A;let⟨_,f⟩:=hT _ _ q;have:∃d,P.underlying t=some d/\mn d=false:=by
      cases B:ti.k<;>rw[B]at f;case i=>exact⟨_,f,rfl⟩
      case bool=>exact⟨_,f,rfl⟩
      case str=>exact⟨_,f,rfl⟩
      case sl=>exact⟨_,f.1,rfl⟩
      case st=>exact absurd B (n1 _)
      case ar=>exact absurd B (n2 _ _)
      case mp=>exact⟨_,f.1,rfl⟩
      case W4=>exact⟨_,f,rfl⟩
      case ms=>exact⟨_,f.1,rfl⟩
      case mg=>exact⟨_,f.1,rfl⟩
      case ptr=>let⟨e,f⟩:=f;exact⟨_,f,rfl⟩
      all_goals exact f
     let⟨d,hd,Q⟩:=this;have I:=V o u hu;rw[add_lit,A3]at I;exact⟨u,R.ZY S hd Q I,mF D,D.qZ⟩
    cases c
   cases c
  cases c
 cases c
def afP{c:Cx}(h:C8 c){e:I7}(d:e∈XN):Pd c (.fz e.s e.xs) (.slice (some ⟨e.g,0,none⟩) e.xs e.xs):=by
 let⟨j,o,p,q,cells,t,fr,v,A⟩:=h.2 e d;refine .fz (tw _) p q A (.inr ⟨_,rfl,⟨j,.inl o⟩,?_⟩);exact dW (cells:=cells) (sp:=[]) (t:=t) (f:=fr) (by rw[A1];exact v)
def sR{g:Nat}:∀{l:List I7} {e:I7},tU g l=some e->e∈l/\e.g=g
 |a::l,e,h=>by
  unfold tU at h;cases c:Nat.beq g a.g
  .rw[c,cond_false]at h;have:=sR h;grind
  simp_all
variable{i:Int}
def zU(hT:bG P G.shp T)(I:pe G ρ H w)(J:ev F y=some (.int k i))(c:uT T t x i=some r)(f:∀p∈r.ob,p):∃u,aW P n F w (.indexAddr t x y) ty u w/\Rt (cx G ρ w) ρ r.v u/\∀p∈r.fc,p:=by
 unfold uT at c;split at c
 .rename_i g;split at c
  .rename_i e m l sz z K q;split at c
   .rename_i s B;split at c
    .rename_i d;simp[pr]at c;subst c;simp only[r3,u9]at d;have L:=d.1;have E:=ts d.2;have v:=f _ A9;have b:=f _ (x9 _ (v8 _));obtain⟨j,rfl⟩:=y6 v;let⟨Q,C⟩:=sR K;have S:j<e.xs:=by omega
     let⟨A,Z,U,_,h,a,D⟩:=MV (ρ:=ρ) (afP I.tb Q) (qw S);have o:=zN hT B;cases U;have V:Addr.add ⟨e.g,0,none⟩ (j*e.s.size)=⟨g,j,none⟩:=by rw[C,<-L,o.1,add_lit,A3,O8]
     rw[V]at h;refine⟨_,R.jK (g:=g) (i:=j) (by rfl) J (hT _ _ q).2 o.2.1 N,?_,D.qZ⟩;rw[G3];exact h
    cases c
   cases c
  cases c
 cases c
def CO(hT:bG P G.shp T)(h:AM T e=true):(P.info? e).map (·.size)=some 1/\((P.info? e).bind (·.zero)).map Value.cells=some [Value.pointer none].toArray:=by
 unfold AM at h;split at h
 .rename_i f;let⟨⟨g,j,o,d⟩,_⟩:=hT _ _ f;refine⟨g,o.trans (o9 (λl:List Value=>some l.toArray) ?_)⟩;cases j with
  |nil=>simp[DT]at d
  |cons v r=>
   cases r with
   |cons _ _=>simp[DT]at d
   |nil=>
    simp[DT]at d;have h:=aa3 (c:=⟨λ_=>none,0,λ_=>False,default⟩) (ρ:=[]) d;rw[h]
 cases h
def yX(hT:bG P G.shp T){v:Value}(h:Rd (cx G ρ w) ρ a v)(J:ev F x=some v)(K:ev F y=some (.int k i))(c:jK T H t a i=some r)(d:∀p∈r.ob,p):∃u,aW P n F w (.indexAddr t x y) ty u w/\Rt (cx G ρ w) ρ r.v u/\∀p∈r.fc,p:=by
 unfold jK at c;split at c
 .rename_i id m e sz z f;split at c
  .rename_i E s Z b l m3 D;split at c
   next o=>simp[pr]at c;subst c;simp only[r3]at o;have e2:=ts o.1;have I:=d _ A9;have S:=d _ (x9 _ (v8 _));obtain⟨j,rfl⟩:=y6 I;obtain⟨g,U,rfl⟩:=h;exact⟨_,R.jK J K (hT _ _ f).2 (zN hT D).2.1 N,⟨g,U,by rw[G3]⟩,aa⟩
   cases c
  cases c
 .rename_i cs e sz z f;split at c
  next q V L=>simp[pr]at c;subst c;have I:=d _ A9;have S:=d _ (x9 _ (v8 _));obtain⟨j,rfl⟩:=y6 I;rw[G3]at L;obtain⟨us,B,A,rfl,c,v2,m1⟩:=h;have v6:=B.length;let⟨u,Q,C⟩:=e_ B j q L;refine⟨_,R.lL (s:=1) J K (hT _ _ f).2.1 (CO hT V).1 rfl N,⟨[u],.cons C .nil,A.add (j*1),rfl,by rw[iq];exact v2,?_⟩,aa⟩;have:=(m1.drop j).take 1;rw[K6 (sy.1 Q).1,(sy.1 Q).2]at this;rw[O8];simpa using this
  cases c
 cases c
def zj(hT:bG P G.shp T){c:Cx}{v:Value}(h:eh c ρ (.agg cs) v)(L:ev F x=some v)(l:ev F y=some (.int k i))(f:ng T t cs i=some r)(q:∀p∈r.ob,p):∃u,aW P n F w (.index t x y) ty u w/\Rt c ρ r.v u/\∀p∈r.fc,p:=by
 unfold ng at f;split at f
 .rename_i m e sz z B;split at f
  .rename_i s Q;split at f
   .rename_i S C;split at f
    next a g o=>simp[pr]at f;subst f;have g:=ts g;have U:=q _ A9;have H:=q _ (x9 _ (v8 _));obtain⟨j,rfl⟩:=y6 U;obtain⟨vs,rfl,D⟩:=h;let⟨I,J,d,V,K⟩:=zN hT Q;let⟨u,b,A⟩:=Mw (mA C D) I (show j<S by omega) o;exact⟨u,R.ng L l (hT _ _ B).2 V K J N b,mF A,A.qZ⟩
    cases f
   cases f
  cases f
 cases f
theorem R.buildSlice{parts:List (Nat×Operand)}{pv:List (Nat×Value)}{vss:List (List Value)}{m s:Nat}{e:TypeId}{z:List Value}(v:P.underlying t=some (.slice e))(A:(P.info? e).map (·.size)=some s)
  (D:((P.info? e).bind (·.zero)).map Value.cells=some z.toArray)(I:Qk F parts=some pv)(J:pv.map (λp=>(p.1,p.2.cells.toList))=(range' 0 vss).zip vss)(K:∀vs∈vss,vs=s)(L:vss=m)
  (b:m*s<=16777216):aW P n F w (.buildSlice t m parts.toArray) ty (.slice (some ⟨w.heap.size,0,none⟩) m m) (w.alloc (.cells vss.flatten.toArray e)):=λa _ _ _ _ Q=>by
 subst L;cases f:P.info? e with
 |none=>simp[f]at A
 |some i=>
  have B:i.size=s:=by simpa[f] using A
  cases g:i.zero with
  |none=>simp[f,g]at D
  |some d=>
   have c:(parts.toArray.map λp=>(p.1,a.eval p.2))=pv.toArray:=by simp[<-zA Q I]
   have C:=λh o=>by
    simpa using uD s vss 0 [] h K aa o pv J
   by_cases q:vss*s=0
   .have:=C [] (by simp[q]);simp[execOp,c,Instr.buildSlice,C0 v,sizeOf,typeInfo,f,B,q,Array.range_zero',this,newRow]
   have:=C ((range (vss*s)).map λj=>d.cells[j%d.cells.size]!) aa;have S:(Array.range (vss*s)).map (λj=>d.cells[j%d.cells.size]!)=((range (vss*s)).map λj=>d.cells[j%d.cells.size]!).toArray:=by rw[<-List.toArray_range,List.map_toArray]
   simp only[execOp,Instr.buildSlice,T4,C0 v,sizeOf,typeInfo,run_program,f,B,Result.andThen_ok,Sem.run_ite,X (show¬vss*s>2^24 by omega),Sem.run_pure,q,if_false,zeroValue,g,S];rw[show(Array.map (λx=>(x.1,a.eval x.2)) parts.toArray).toList=pv by rw[c]];simp[this,newRow]
theorem BW(op:BinOp)(t:TypeId)(x:Operand):eqGuard op t x (.const .nilIface) .nilIface .nilIface=pure ():=by cases op<;>cases x<;>rfl
theorem BS(op:BinOp)(t:TypeId)(x y:Operand)(a:TypeId)(b:Value):eqGuard op t x y (.iface a b) .nilIface=pure ():=by cases op<;>rfl
theorem eval_nil(a:Act):a.eval (.const .nilIface)=.nilIface:=rfl
variable{m1:Option TV}
def adx(hT:bG P G.shp T){c:Cx}{fr:lg}(B:r7 c ρ fr F){op:BinOp}(C:ez fr x=m1)(h:erA T op t m1 y=some r)(D:c=cx G ρ w):Yields P n F w (.binOp op t x y t') ty λv A=>Kp [] w A/\Rt (cx G ρ A) ρ r.v v/\∀p∈r.fc,p:=by
 unfold erA at h;split at h
 .split at h
  .rename_i sz z b o;let⟨va,f,I,J,g⟩:=az B C;have j:=(hT _ _ o).2;let⟨_,g⟩:=g;split at h
   .cases h;rcases g with⟨rfl,rfl⟩|⟨rfl,q,s,rfl⟩
    .exact y0 (v:=.bool true) (λ_ _ _ _ _ d=>by simp[execOp,d.ev f,eval_nil,BW,run_eql_nil_nil w t j]) (Pd.bool (e:=.atom true)) aa
    exact y0 (v:=.bool false) (λ_ _ _ _ _ d=>by simp[execOp,d.ev f,eval_nil,BS,run_eql_held_nil w t q s j]) (Pd.bool (e:=.atom false)) aa
   .cases h;rcases g with⟨rfl,rfl⟩|⟨rfl,q,s,rfl⟩
    .exact y0 (v:=.bool false) (λ_ _ _ _ _ d=>by simp[execOp,d.ev f,eval_nil,BW,run_neq_nil_nil w t j]) (Pd.bool (e:=.not (.atom true))) aa
    exact y0 (v:=.bool true) (λ_ _ _ _ _ d=>by simp[execOp,d.ev f,eval_nil,BS,run_neq_held_nil w t q s j]) (Pd.bool (e:=.not (.atom false))) aa
   cases h
  cases h
 cases h
def Su n:IntKind.u8.wrap n=((DW n).toNat:Int):=by
 show n%256=_;unfold DW;rw[J7];omega
def Jr(hT:bG P G.shp T)(C:pe G ρ H w){a:TI}(j:bt T t=some a)(c:bt T t'=some b)(h:SN m3 H a.k b.k u=some r)(o:∀p∈r.ob,p)(q:Rd (cx G ρ w) ρ u va)(s:ev F x=some va):
  Yields P n F w (.convert t t' x) ty λv d=>Kp [] w d/\Rt (cx G ρ d) ρ r.v v/\∀p∈r.fc,p:=by
 unfold SN at h;split at h
 .rename_i D I m _ A B;have f:=(hT _ _ j).2;have g:=(hT _ _ c).2;rw[A]at f;rw[B]at g;cases h;cases q with|int J=>
  have:=R.conv (P:=P) (n:=n) (w:=w) (ty:=ty) s f g
  rw[Su]at this;exact y0 this Pd.u8 aa
 grind[Tm]
def IN{k:n9}:∀{l:List MapEntry} {i:Nat},(∀e∈l,∃s,e.key=.string s)->
  (∃j v,Instr.findNow .string k.val l i=some (some (j,v))/\yS k l=some v)\/(Instr.findNow .string k.val l i=some none/\yS k l=none)
 |[],i,_=>.inr ⟨rfl,rfl⟩
 |e::l,i,h=>by
  let⟨s,d⟩:=h e aa;have p:=λx q=>h x (x9 _ q);have f:((⟨k.b.toArray⟩:ByteArray)==s)=decide ((⟨s.data.toList⟩:n9)=k):=by
   rw[E8,MapKept.bytes_beq,u9];constructor
   .rintro rfl;simp
   intro e;rw[<-e]
  by_cases c:(⟨s.data.toList⟩:n9)=k
  .exact .inl ⟨i,e.val,by simp[Instr.findNow,d,Instr.sameNow,n9.val,f,c],by simp[yS,YK,d,c]⟩
  rcases IN (k:=k) (i:=i+1) p with⟨j,v,g,o⟩|⟨g,o⟩
  .exact .inl ⟨j,v,by simp[Instr.findNow,d,Instr.sameNow,n9.val,f,c];exact g,by simp[yS,YK,d,c,o]⟩
  exact .inr ⟨by simp[Instr.findNow,d,Instr.sameNow,n9.val,f,c];exact g,by simp[yS,YK,d,c,o]⟩
def R.WB{g c:Nat}{k:n9}{a:Array MapEntry}{z:Value}{A f:TypeId}(D:ev F x=some (.map (some g)))(I:ev F y=some k.val)(J:P.underlying t=some (.map A f))(h:P.underlying A=some .string)(o:(P.info? f).bind (·.zero)=some z)(B:w.heap[g]? =some (.map a c))(K:∀e∈a.toList,∃s,e.key=.string s):
  aW P n F w (.lookup t x y false) ty ((yS k a.toList).getD z) w:=λb _ _ _ _ C=>by
 have d:MapKept.IsKey .string k.val:=trivial;have L:(zeroValue f).run P w=.ok z w:=by
  cases p:P.info? f with
  |none=>simp[p]at o
  |some i=>simp[p]at o;simp[zeroValue,typeInfo,p,o]
 have e:(Instr.lookup t (.map (some g)) k.val false).run P w=.ok ((yS k a.toList).getD z) w:=by
  unfold Instr.lookup;simp[C0 J];rcases IN (k:=k) (i:=0) K with⟨j,Q,q,v⟩|⟨q,v⟩
  .simp[Q6 B,MapKept.run_checkKey h d,MapKept.run_findKey h q];simp[v]
  simp[Q6 B,MapKept.run_checkKey h d,MapKept.run_findKey h q];simp[v,L]
 simp[execOp,C.ev D,C.ev I,e]
def Kz(hT:bG P G.shp T){c:Cx}{fr:lg}(C:r7 c ρ fr F){ok:Bool}{E:Option TV}(I:ez fr x=m1)(J:ez fr y=E)(h:Pe T t m1 E ok=some r)(K:c=cx G ρ w):Yields P n F w (.lookup t x y ok) ty λv D=>Kp [] w D/\Rt (cx G ρ D) ρ r.v v/\∀p∈r.fc,p:=by
 subst K;unfold Pe at h;split at h
 .rename_i e i sz z f s o;split at h
  .cases h;let⟨va,L,k,l,v6⟩:=az C I;let⟨vb,Q,S⟩:=az C J;cases S with|str u=>
   obtain⟨_,g,a,H,rfl,_,U,V,m3⟩:=v6;let⟨Z,q,b⟩:=(hT _ _ o).2;have d:=R.WB (P:=P) (n:=n) (F:=F) (ty:=ty) L Q Z q b U V;let⟨A,B⟩:=m3 s;rw[A]at d;cases j:f s with
   |none=>rw[j]at d;exact y0 d (by rw[show((none:Option Int).getD 0)=0 from rfl];exact Pd.int ⟨N,N⟩) aa
   |some m=>rw[j]at d;exact y0 d (Pd.int (B m j)) aa
  cases h
 cases h
def Bp{c:Cx}:∀{l:List (Nat×oh)} {k:Nat} {cs:List (Nat×Nat)} {pv:List (Nat×Value)},uJ k l=some cs->hY (λp q=>p.1=q.1/\eh c ρ p.2 q.2) l pv->
  ∃f:List Value,hY (fw ρ) cs f/\pv.map (λp=>(p.1,p.2.cells.toList))=(range' k f).zip (f.map λu=>[u])
 |[],k,cs,_,h,j=>by cases h;cases j;exact⟨[],.nil,rfl⟩
 |(i,t)::r,k,cs,_,h,j=>by
  cases j with
  |@cons _ q _ J s v=>
  let⟨K,u⟩:=q;let⟨e,A⟩:=s;simp only at e;subst e;cases t with
  |agg l=>simp[uJ]at h
  |c a=>
  cases a;case ptr id o=>
   simp[uJ]at h;split at h
   next l d B=>cases h;let⟨f,C,D⟩:=Bp B v;have d:=ts d;subst d;obtain⟨g,I,rfl⟩:=A;refine⟨_::f,.cons ⟨g,I,rfl⟩ C,?_⟩;simp[D];rfl
   cases h
  all_goals simp[uJ]at h
theorem aaC:∀c:List Value,(c.map λu=>[u]).flatten=c
 |[]=>rfl
 |a::r=>by rw[O5,flatten_cons,aaC r];rfl
def Uk(hT:bG P G.shp T)(C:pe G ρ H w){e:Nat}{cs:List (Nat×Nat)}{parts:Array (Nat×Operand)}{pv:List (Nat×Value)}(d:bt T t=some ⟨.sl e none,sz,z⟩)(o:uJ 0 l=some cs)(J:Qk F parts.toList=some pv)(K:hY (λp q=>p.1=q.1/\eh (cx G ρ w) ρ p.2 q.2) l pv)(S:cs=m)(A:AM T e=true)(B:m<=16777216):
  Yields P n F w (.buildSlice t m parts) ty λv D=>Kp [] w D/\Rt (cx G ρ D) ρ (one (.xx .pl cs)) v/\∀p∈([]:List Prop),p:=by
 let⟨g,I,L⟩:=Bp o K;have U:=I.length;have d:=(hT _ _ d).2;have j:=CO hT A;have c:=R.buildSlice (P:=P) (n:=n) (F:=F) (w:=w) (ty:=ty) (m:=m) (s:=1) (z:=[.pointer none]) (vss:=g.map λu=>[u]) d.1 j.1 j.2 J (by rw[K9];exact L) aa (by rw[K9];omega) N;rw[show parts.toList.toArray=parts by simp,aaC g]at c;have h:g=m:=by omega
 subst h;refine .inl ⟨_,_,c,Kp.alloc w _,⟨g,I,⟨w.heap.size,0,none⟩,rfl,B,⟨aa,λ⟨i,r,a,Q⟩=>by have:=(C.u0 i r _ a Q).2.1;simp at this,λj=>by have:=C.z _ j;simp at this⟩,?_⟩,aa⟩;exact dW (cells:=g) (sp:=[]) (t:=e) (f:=(0,0)) (by rw[A1];exact M5 w _)
theorem Xp(hT:bG P G.shp T)(hO:dN P G.shp m3)(m1:pe G ρ H w){fr:lg}(I:r7 (cx G ρ w) ρ fr F)(h:pvB T m3 H fr op=some r)(v6:∀p∈r.ob,p):
  Yields P n F w op ty λv w'=>Kp [] w w'/\Rt (cx G ρ w') ρ r.v v/\∀p∈r.fc,p:=by
 cases op<;>simp[pvB]at h;case move x=>
  split at h
  next tv J=>cases h;let⟨v,B,q⟩:=az I J;exact y0 (R.move B) q aa
  cases h
 case assign x=>
  split at h
  next tv J=>cases h;let⟨v,B,q⟩:=az I J;exact y0 (R.assign B) q aa
  cases h
 case unOp u t x=>
  cases u<;>simp only at h<;>try cases h
  split at h
  .rename_i e J;cases h;let⟨v,B,q⟩:=az I J;cases q with|bool=>
   have e1:(BE.neg e).val= !e.val:=by cases e<;>simp[BE.neg,BE.val]
   have d:=Pd.bool (c:=cx G ρ w) (e:=e.neg);rw[e1]at d;exact y0 (R.not B) d aa
  cases h
 case binOp op t x y t'=>
  split at h
  .rename_i a b J Q;split at h
   next hb=>let⟨va,B,q⟩:=az I J;let⟨vb,d,C⟩:=az I Q;let⟨v,L,S,U⟩:=Nt (P:=P) (n:=n) (w:=w) (ty:=ty) (t':=t') hT hb h v6 q C B d;exact y0 L S (uM U)
   exact adx (P:=P) (n:=n) (w:=w) (ty:=ty) hT I J h rfl
  next a b J Q=>obtain⟨va,B,vs,rfl,q⟩:=az I J;obtain⟨vb,d,us,rfl,C⟩:=az I Q;let⟨v,L,S,U⟩:=Wm (P:=P) (n:=n) (w:=w) (ty:=ty) (t':=t') hT h q C B d;exact y0 L S (uM U)
  cases h
 case extract x i=>
  split at h
  .rename_i l J;split at h
   next a V=>cases h;obtain⟨v,B,vs,rfl,q⟩:=az I J;let⟨u,d,C⟩:=e_ q i a V;exact y0 (R.extract B (by simpa using d)) C aa
   cases h
  cases h
 case nilCheck x=>
  split at h
  .rename_i a J;let⟨v,B,q⟩:=az I J;cases a<;>simp at h<;>cases h
   .obtain⟨g,d,rfl⟩:=q;exact y0 (R.sA B) ⟨g,d,rfl⟩ aa
   .obtain⟨g,cap,len,z,d,C,rfl⟩:=q;exact y0 (R.sA B) ⟨g,cap,len,z,d,C,rfl⟩ aa
   .obtain⟨A,cells,d,C,L,rfl⟩:=q;exact y0 (R.sA B) ⟨A,cells,d,C,L,rfl⟩ aa
   obtain⟨bs,us,d,C,rfl⟩:=q;exact y0 (R.Lc B) ⟨bs,us,d,C,rfl⟩ aa
  cases h
 case convert s t x=>
  split at h
  next a b u B q J=>let⟨v,d,C⟩:=az I J;exact Jr hT m1 B q h v6 C d
  cases h
 case makeFunc g b c=>
  cases g<;>simp only at h<;>try cases h
  rename_i f;split at h
  .rename_i cs hb hc;split at h
   .rename_i cp hcp;cases h;let⟨vs,B,q⟩:=nY I hc;have d:=qm hcp q;obtain rfl:b= #[]:=by
     apply J4;simpa using hb
    refine y0 (R.makeFunc (cv:=vs.toArray) λa ha=>?_) ⟨[],vs,.nil,d,rfl⟩ aa;apply J4;rw[Array.toList_map,qB ha B]
   cases h
  cases h
 case fieldAddr t x i=>
  split at h
  .rename_i fs sz z a B J;split at h
   next o k V=>let⟨v,q,d⟩:=az I J;let⟨u,C,L,_,U⟩:=KA (P:=P) (n:=n) (w:=w) (ty:=ty) hT B V d q h;exact y0 C L (uM U)
   cases h
  cases h
 case load t x=>
  split at h
  .rename_i a J;let⟨v,q,d⟩:=az I J;split at h
   next r' hla=>cases h;let⟨u,C,L,S⟩:=sH (P:=P) (n:=n) (ty:=ty) hT m1 d q hla v6;exact y0 C L S
   let⟨u,C,L,_,U⟩:=Bq (P:=P) (n:=n) (ty:=ty) hT m1 d q h;exact y0 C L (uM U)
  cases h
 case indexAddr t x y=>
  split at h
  .rename_i a b s J Q hs;split at h
   next i V=>let⟨va,B,q⟩:=az I J;let⟨vb,d,C⟩:=az I Q;obtain⟨k,rfl⟩:=sw V C;let⟨v,L,S,U⟩:=Kj (P:=P) (n:=n) (ty:=ty) hT m1 hs h v6 q B d;exact y0 L S U
   cases h
  .rename_i a b J Q hs;split at h
   next i V=>let⟨va,B,q⟩:=az I J;let⟨vb,d,C⟩:=az I Q;obtain⟨k,rfl⟩:=sw V C;let⟨v,L,S,U⟩:=yX (P:=P) (n:=n) (ty:=ty) hT q B d h v6;exact y0 L S U
   cases h
  .rename_i b J Q hs;split at h
   next i V=>let⟨vb,d,C⟩:=az I Q;obtain⟨k,rfl⟩:=sw V C;let⟨v,L,S,U⟩:=zU (P:=P) (n:=n) (ty:=ty) hT m1 d h v6;exact y0 L S U
   cases h
  cases h
 case index t x y=>
  split at h
  .rename_i s b J Q;split at h
   .rename_i i V;split at h
    .rename_i sz z ht;cases h;let⟨va,B,q⟩:=az I J;let⟨vb,d,C⟩:=az I Q;obtain⟨k,rfl⟩:=sw V C;cases q with|str hl=>
     have g0:=v6 _ A9;have g1:=v6 _ (x9 _ (v8 _));obtain⟨j,rfl⟩:=y6 g0;exact y0 (R.aky B d (hT _ _ ht).2 N) Pd.u8 aa
    cases h
   cases h
  .rename_i cs b J Q;split at h
   next i V=>let⟨va,B,q⟩:=az I J;let⟨vb,d,C⟩:=az I Q;obtain⟨k,rfl⟩:=sw V C;let⟨v,L,S,U⟩:=zj (P:=P) (n:=n) (w:=w) (ty:=ty) hT q B d h v6;exact y0 L S U
   cases h
  cases h
 case build t parts=>
  split at h
  .rename_i fs sz z l ht hl;split at h
   .rename_i cs hb;cases h;let⟨pv,B,q⟩:=lW I hl;let⟨us,d,C⟩:=LH (P:=P) (n:=n) (w:=w) (ty:=ty) hT ht B q hb;have e:parts.toList.toArray=parts:=by simp
    rw[e]at d;exact y0 d ⟨us,rfl,C⟩ aa
   cases h
  .rename_i m e sz z l ht hl;split at h
   .rename_i s cs hs hb;cases h;let⟨pv,B,q⟩:=lW I hl;let⟨us,d,C⟩:=uk (P:=P) (n:=n) (w:=w) (ty:=ty) hT ht (zN hT hs).2.1 B q hb;have e:parts.toList.toArray=parts:=by simp
    rw[e]at d;exact y0 d ⟨us,rfl,C⟩ aa
   cases h
  cases h
 case slice t x lo V mx=>
  cases mx with
  |some m=>cases h
  |none=>
  simp only at h;split at h
  .rename_i a J;let⟨va,B,q⟩:=az I J;have fin:∀(l' h':Option Int),mU T t a l' h'=some r->(∀i,l'=some i->∃z,lo=some z/\ev F z=some (.int .i64 i))->(l'=none->lo=none)->(∀i,h'=some i->∃z,V=some z/\ev F z=some (.int .i64 i))->(h'=none->V=none)->Yields P n F w (.slice t x lo V none) ty λv w'=>Kp [] w w'/\Rt (cx G ρ w') ρ r.v v/\∀p∈r.fc,p:=λl' h' hs k1 k2 k3 Z=>by
    let⟨v,L,S,U⟩:=KT (P:=P) (n:=n) (w:=w) (ty:=ty) hT hs v6 q B k1 k2 k3 Z;exact y0 L S (uM U)
   split at h
   .cases h
   .split at h
    .rename_i z i hz;let⟨vz,d,C⟩:=az I hz;cases C with|int=>
     exact fin _ _ h (λj hj=>by cases hj;exact⟨_,rfl,d⟩) aa aa (λ_=>rfl)
    cases h
   .split at h
    .rename_i z i hz;let⟨vz,d,C⟩:=az I hz;cases C with|int=>
     exact fin _ _ h aa (λ_=>rfl) (λj hj=>by cases hj;exact⟨_,rfl,d⟩) aa
    cases h
   split at h
   .rename_i z z' i j hz hz';let⟨vz,d,C⟩:=az I hz;let⟨vz',L,S⟩:=az I hz';cases C with|int=>
    cases S with|int=>
    exact fin _ _ h (λj hj=>by cases hj;exact⟨_,rfl,d⟩) aa (λj hj=>by cases hj;exact⟨_,rfl,L⟩) aa
   cases h
  cases h
 case call v2=>
  split at h
  .rename_i K;split at h
   .rename_i x t D htys;split at h
    .rename_i a J;split at h
     .rename_i m hm;cases h;let⟨va,B,q⟩:=az I J;let⟨d,C⟩:=Yy (P:=P) (n:=n) (ty:=ty) hT m1 hm q B;have e:v2={callee:=.builtin .len,args:=#[x],argTypes:=#[t]}:=by
       cases v2;simp at K D htys;subst K;simp;exact⟨J4 (by simpa using D),J4 (by simpa using htys)⟩
      rw[e];exact y0 d (Pd.int C) aa
     cases h
    cases h
   cases h
  .rename_i K;split at h
   .rename_i x y D;split at h
    .rename_i a b J Q;cases h;let⟨va,B,q⟩:=az I J;let⟨vb,d,C⟩:=az I Q;cases q with|int ia=>
     cases C with|int ib=>
     have e:v2={callee:=.builtin .min,args:=#[x,y],argTypes:=v2.argTypes}:=by
      cases v2;simp at K D;subst K;simp;exact J4 (by simpa using D)
     rw[e];exact y0 (R.min2 B d) (Pd.int (by unfold W at*;omega)) aa
    .rename_i a b J Q;cases h;let⟨va,B,q⟩:=az I J;let⟨vb,d,C⟩:=az I Q;cases q with|u64 ia=>
     cases C with|u64 ib=>
     have e:v2={callee:=.builtin .min,args:=#[x,y],argTypes:=v2.argTypes}:=by
      cases v2;simp at K D;subst K;simp;exact J4 (by simpa using D)
     have e2:min (a:Int) (b:Int)=((min a b:Nat):Int):=by omega
     have e3:=R.min2 (P:=P) (n:=n) (w:=w) (ty:=ty) (asx:=v2.argTypes) B d;rw[e2]at e3;rw[e];exact y0 e3 (Pd.u64 N) aa
    cases h
   cases h
  .rename_i K;split at h
   .rename_i x y D;split at h
    .rename_i a b J Q;cases h;let⟨va,B,q⟩:=az I J;let⟨vb,d,C⟩:=az I Q;cases q with|int ia=>
     cases C with|int ib=>
     have e:v2={callee:=.builtin .max,args:=#[x,y],argTypes:=v2.argTypes}:=by
      cases v2;simp at K D;subst K;simp;exact J4 (by simpa using D)
     rw[e];exact y0 (R.max2 B d) (Pd.int (by unfold W at*;omega)) aa
    cases h
   cases h
  .rename_i x K;split at h
   .rename_i f l hl;let⟨x',xs,vs,bs,cap,B,q,d,C,L⟩:=mS I hl;let⟨⟨fn,S,U,h8⟩,z2⟩:=xt hO m1 L h v6;have e:v2={callee:=.value x',args:=xs.toArray,argTypes:=v2.argTypes}:=by
     cases v2;simp at B q;subst B;subst q;rfl
    rw[e];exact .inr ⟨_,_,E.SB d C S U h8,z2⟩
   cases h
  cases h
 case lookup t x y ok=>
  split at h
  .rename_i s id k hft J Q;split at h
   .rename_i s' f hO2;split at h
    .rename_i hss;subst hss;let⟨hm,hk,hz,_⟩:=(hT _ _ hft).2;let⟨z,zs,hz1,hz2,hz3⟩:=hz _ rfl;let⟨va,B,q⟩:=az I J;let⟨vb,d,C⟩:=az I Q;cases C with|int=>
     obtain⟨g,hg,rfl⟩:=q;let⟨r',hr',hor⟩:=m1.at_ (cC hO2 aa);rw[hg]at hr';cases hr';let⟨g',e,a,c,k1,k2,k3⟩:=hor;cases e;have z2:=R.tO (P:=P) (n:=n) (ty:=ty) ok B d hm hk hz1 k1 k2;have hv:V1 (cx G ρ w) s' ((f k).getD (c4 s')) ((getM k a.toList).getD z):=by
      have Z:=k3 k;cases hgm:getM k a.toList<;>cases hfk:f k<;>rw[hgm,hfk]at Z
      .exact V1.zero hz2 hz3
      .exact Z.elim
      .exact Z.elim
      exact Z
     have hs:(getM k a.toList).isSome=(f k).isSome:=by
      have Z:=k3 k;cases hgm:getM k a.toList<;>cases hfk:f k<;>rw[hgm,hfk]at Z
      .rfl
      .exact Z.elim
      .exact Z.elim
      rfl
     cases ok with
     |false=>cases h;exact y0 z2 hv.rt aa
     |true=>
      cases h;refine y0 z2 ⟨_,rfl,.cons hv.rt (.cons ?_ .nil)⟩ aa;rw[hs];exact Pd.bool (e:=.atom (f k).isSome)
    cases h
   cases h
  exact Kz (P:=P) (n:=n) (w:=w) (ty:=ty) hT I rfl rfl h rfl
 case buildSlice t m parts=>
  split at h
  .rename_i e sz z l hft hl;split at h
   .rename_i cs hcs;split at h
    next hck=>simp[pr,Option.some.injEq]at h;subst h;simp only[r3]at hck;let⟨pv,B,q⟩:=lW I hl;exact Uk hT m1 hft hcs B q (ts hck.1.1) hck.1.2 (G8 hck.2)
    cases h
   cases h
  cases h
 all_goals cases h
end
section
variable{P:Program}{n:Nat}{fr:Fr}{w:World}{x y:Operand}{t t' ty e:TypeId}
variable{cs:List Value}
def R.BJ{g o b k c l z:Nat}{a:Addr}{cur:List Value}{m:TypeId}(r:ev fr x=some (.slice (some ⟨g,o,none⟩) b k))(s:ev fr y=some (.slice (some a) c l))(u:P.underlying t=some (.slice e))(p:(P.info? e).map (·.size)=some z)
  (A:w.heap[g]? =some (.cells cur.toArray m (0,0)))(B:cs=Nat.min c b*z)(d:j0 w a cs)(f:o+cs<=cur)(C:∀v∈cs,v.oneCell'=true):
  aW P n fr w (.call {callee:=.builtin .copy,args:=#[x,y],argTypes:=#[t,t']}) ty (goInt (Nat.min c b)) (w.setRow g (cur.take o++cs++cur.drop (o+cs)).toArray):=λ_ _ _ _ _ q=>by
 have D:=Y2 (P:=P) w a cs d;have h:=run_storeCells_at (P:=P) g o m cs 0 cur.toArray w A (by simpa using f) C;cases j:P.info? e with
 |none=>simp[j]at p
 |some i=>
  have F:i.size=z:=by simpa[j] using p
  have G:(Builtin.copy_ #[t,t'] ty #[.slice (some ⟨g,o,none⟩) b k,.slice (some a) c l]).run P w=.ok (goInt (Nat.min c b)) (w.setRow g (cur.take o++cs++cur.drop (o+cs)).toArray):=by
   simp[Builtin.copy_,C0 u,Builtin.lenOf,Builtin.firstCells,sizeOf,typeInfo,j,F,<-B,D,h]
  simp[execOp,resolve,invoke,builtin,q.ev r,q.ev s,G]
variable{k m i j:Nat}{km kh:IntKind}{z' z'':Operand}{a:Option Addr}
def R.slice3{c s:Nat}{f:IntKind}{z:Operand}(u:ev fr x=some (.slice a m c))(v:ev fr z=some (.int f i))(g:ev fr z'=some (.int kh j))(d:ev fr z''=some (.int km k))(h:P.underlying t=some (.slice e))(r:(P.info? e).map (·.size)=some s)
  (A:i<=j)(B:j<=k)(D:k<=c):aW P n fr w (.slice t x (some z) (some z') (some z'')) ty (.slice (if k=i then a else a.map (·.add (i*s))) (j-i) (k-i)) w:=λ_ _ _ _ _ b=>by
 cases l:P.info? e with
 |none=>simp[l]at r
 |some q=>
  have o:q.size=s:=by simpa[l] using r
  have p:P.elem t=e:=by simp[Program.elem,h]
  have C:=V7 (P:=P) w t (.slice a m c) (some (.int f i)) (some (.int kh j)) (some (.int km k)) (by rw[p];exact h);have:=run_slice_lhm (P:=P) w t a m c (by rw[p];exact h) f kh km i j k N N N N;simp[execOp,b.ev u,b.ev v,b.ev g,b.ev d,C,this,p,sizeOf,typeInfo,l,o,sliced]
def R.Vn{c s:Nat}(o:ev fr x=some (.slice a m c))(f:ev fr z'=some (.int kh j))(d:ev fr z''=some (.int km k))(g:P.underlying t=some (.slice e))(p:(P.info? e).map (·.size)=some s)
  (r:j<=k)(v:k<=c):aW P n fr w (.slice t x none (some z') (some z'')) ty (.slice (if k=0 then a else a.map (·.add (0*s))) (j-0) (k-0)) w:=λ_ _ _ _ _ b=>by
 cases l:P.info? e with
 |none=>simp[l]at p
 |some q=>
  have h:P.elem t=e:=by simp[Program.elem,g]
  have u:=V7 (P:=P) w t (.slice a m c) none (some (.int kh j)) (some (.int km k)) (by rw[h];exact g);have:=run_slice_hm (P:=P) w t a m c (by rw[h];exact g) kh km j k N N N;simp[execOp,b.ev o,b.ev f,b.ev d,u,this,h,sizeOf,typeInfo,l,sliced]
theorem ye z(h:0<=z):IntKind.u32.wrap z=(z.toNat%4294967296:Nat):=by
 simp only[IntKind.wrap,IntKind.bits,IntKind.signed];simp;omega
def wrap_u32(h:m<4294967296):IntKind.u32.wrap m=m:=by
 rw[ye _ N,G3,E9 h]
variable{b a:Nat}
def R.ape{c:IntKind}(f:ev fr x=some (.int .u32 a))(g:ev fr y=some (.int c b))(h:b<=32):aW P n fr w (.binOp .shl t x y t') ty (.int .u32 (((a*2^b)%4294967296:Nat):Int)) w:=λ_ _ _ _ _ d=>by
 have e:IntKind.u32.wrap (a*2^b)=(((a*2^b)%4294967296:Nat):Int):=by grind[ye]
 have l:Op.shift .shl .u32 a c b=pure (.int .u32 (((a*2^b)%4294967296:Nat):Int)):=by simp_all
 simp[execOp,d.ev f,d.ev g,binOp_shl];rfl
def R.orW(l:ev fr x=some (.int .u32 a))(o:ev fr y=some (.int .u32 b))(d:a<4294967296)(f:b<4294967296):aW P n fr w (.binOp .or t x y t') ty (.int .u32 (a|||b:Nat)) w:=λ_ _ _ _ _ g=>by
 have h:∀c:Nat,(BitVec.ofInt 32 c)=BitVec.ofNat 32 c:=λc=>by rw[X7]
 have e:bits .or .u32 a b=(a|||b:Nat):=by
  show IntKind.u32.wrap ((BitVec.ofInt 32 a|||BitVec.ofInt 32 b).toNat:Int)=_;rw[h,h,BitVec.toNat_or,Q7,Q7,E9 (by simpa using d),E9 (by simpa using f)];exact wrap_u32 (O3 (n:=32) d f)
 simp[execOp,g.ev l,g.ev o,eqGuard_or,binOp_or,intBits_or,e]
def R.ad8{v:Value}{F:Array Go.Field}{f:Go.Field}{d:TypeDesc}(c:ev fr x=some (.agg cs.toArray))(g:P.underlying t=some (.struct F))(h:F[i]? =some f)(l:P.underlying f.type=some d)(o:mn d=false)(p:cs[f.offset]? =some v):aW P n fr w (.field t x i) ty v w:=λ_ _ _ _ _ q=>by
 have r:(Instr.field t (.agg cs.toArray) i).run P w=.ok v w:=by
  unfold Instr.field;simp[C0 g,h,part,nZ l,o,p,asAgg]
 simp[execOp,q.ev c,r]
def R.Kx{f:FuncId}{c cs:List Operand}{d g:List Value}(l:UL fr c=some d)(o:UL fr cs=some g):aW P n fr w (.makeFunc (.func f) c.toArray cs.toArray) ty (.func (.func f) d.toArray g.toArray) w:=λ_ _ _ _ _ h=>by
 simp[execOp,qB h l,qB h o,Instr.makeFunc]
end
section
variable{P:Program}{T:List (Nat×TI)}{G:Gl}{m3:ic}{n:Nat}{F:Fr}{w:World}{x y:Operand}{ty t t':TypeId}{ρ:List RE}{H:AH}
variable{m:Nat}
def Dd{c:Cx}(h:m<4294967296):Rt c ρ (one (.xx (.w m) [])) (.int .u32 m):=⟨[],.nil,rfl,h,rfl⟩
def Xo{c:Cx}{v:Value}(h:Rt c ρ (one (.xx (.w m) [])) v):m<4294967296/\v=.int .u32 m:=by
 let⟨a,_,h⟩:=h;exact h.2
variable{b a:Nat}{r:PR}{op:BinOp}
def VX(h:wOp op a b=some r)(g:∀p∈r.ob,p)(i:a<4294967296)(k:b<4294967296)(d:ev F x=some (.int .u32 a))(f:ev F y=some (.int .u32 b)){c:Cx}:∃v,aW P n F w (.binOp op t x y t') ty v w/\Rt c ρ r.v v/\r.fc=[]:=by
 unfold wOp at h;split at h<;>cases h
 .exact⟨_,R.eql d f,Pd.bool (e:=.eq _ _),rfl⟩
 .exact⟨_,R.neq d f,Pd.bool (e:=.not (.eq _ _)),rfl⟩
 .have:=R.ZD (P:=P) (n:=n) (w:=w) (ty:=ty) (t:=t) (t':=t') d f;exact⟨_,this,Dd (F6 _ N),rfl⟩
 .have:=R.ajQ (P:=P) (n:=n) (w:=w) (ty:=ty) (t:=t) (t':=t') d f;exact⟨_,this,Dd (F6 _ N),rfl⟩
 .have j:=g _ (v8 _);exact⟨_,R.Xg d f j,Dd (L5 (Nat.mod_le _ _) i),rfl⟩
 .have j:=g _ (v8 _);have l:=L5 (O4 a b) i;exact⟨_,R.Ya d f j (wrap_u32 l),Dd l,rfl⟩
 exact⟨_,R.orW d f i k,Dd (O3 (n:=32) i k),rfl⟩
def Xk(h:wSh op a b=some r)(d:∀p∈r.ob,p)(i:a<4294967296)(f:ev F x=some (.int .u32 a))(g:ev F y=some (.int .u64 b)){c:Cx}:∃v,aW P n F w (.binOp op t x y t') ty v w/\Rt c ρ r.v v/\r.fc=[]:=by
 unfold wSh at h;split at h<;>cases h
 .have e:=d _ (v8 _);exact⟨_,R.ape f g (T5 e),Dd (F6 _ N),rfl⟩
 have e:=d _ (v8 _);exact⟨_,R.Rk f g (T5 e),Dd (L5 (O4 _ _) i),rfl⟩
def tD{c:Cx}{d:List KC}:∀{z g:List KC} {i:Nat},Mh z g=true->(∀j,g.getD j .nf=d.getD (i+j) .nf)->hY (Rd c ρ) (Ev d i z) (g.map KC.val)
 |[],[],_,_,_=>.nil
 |a::_,[],_,h,_=>by cases a<;>simp[Mh]at h
 |a::z,b::g,i,h,l=>by
  have k:d.getD i .nf=b:=(l 0).symm;have f:∀j,g.getD j .nf=d.getD (i+1+j) .nf:=λj=>by
   have:=l (j+1);grind
  cases a<;>cases b<;>simp[Mh]at h<;>try cases h
  .refine .cons ?_ (tD ap f);rw[k];rename_i o _;exact(Pd.int o:Pd c _ _)
  .refine .cons ?_ (tD h f);rw[k];exact Pd.bool (e:=.atom _)
  all_goals
   refine .cons ?_ (tD h f);rw[k];exact⟨[],.nil,rfl,rfl⟩
def Gr{z:List KC}:∀{l:List (Int×List KC)} {k:Int},U2 z l=true->Mh z ((eY l k).getD z)=true
 |[],_,h=>h
 |(j,c)::r,k,h=>by
  simp[U2]at h;unfold eY;split
  .exact h.1
  exact Gr h.2
def vu(hT:bG P G.shp T){c:Cx}{a:AV}{l h m:Int}{U:Value}(B:yu T t a l h m=some r)(f:∀p∈r.ob,p)(D:Rd c ρ a U):
  ∃(e:TypeId) (s:Nat) (A:Option Addr) (len g i j k:Nat),P.underlying t=some (.slice e)/\(P.info? e).map (·.size)=some s/\U=.slice A len g/\l=i/\h=j/\m=k/\i<=j/\j<=k/\k<=g/\Rt c ρ r.v (.slice (if k=i then A else A.map (·.add (i*s))) (j-i) (k-i))/\r.fc=[]:=by
 unfold yu at B;split at B
 .rename_i s xs;split at B
  .rename_i o u;split at B
   .rename_i I;have J:=C6 I;subst J;cases B;have R:=f _ (.head _);have H:=f _ (.tail _ (.head _));have m3:=f _ (.tail _ (.tail _ (.head _)));have o4:=f _ (.tail _ (.tail _ (.tail _ (.head _))));have K:0<=m:=by omega
    obtain⟨i,rfl⟩:=y6 R;obtain⟨j,rfl⟩:=y6 (show 0<=h by omega);obtain⟨k,rfl⟩:=y6 K;have D:=D;cases D with
    |@fz _ _ A g cells h1 h2 m1 v L=>
    unfold P5 at u;split at u
    .rename_i e so sz z E;subst u;let⟨Z,b⟩:=(hT _ _ E).2;let⟨_,⟨zz,Q,_⟩,_⟩:=b _ rfl;have C:(P.info? e).map (·.size)=some o.size:=by
      cases V:P.info? e with
      |none=>simp[V]at Q
      |some q=>simp[V]at Q;simp[Q.2.1]
     refine⟨e,o.size,A,xs,g,i,j,k,Z,C,rfl,rfl,rfl,rfl,N,N,N,?_,rfl⟩;have d:((xs.drop i).take (j-i))=j-i:=by rw[sh,length_drop];omega
     have n:((xs.drop i).take (j-i))*o.bytes<=140737488355328:=by
      refine zc (J3 _ ?_) m1;rw[d];omega
     show Pd c (.fz o ((xs.drop (i:Int).toNat).take ((j:Int).toNat-(i:Int).toNat))) _;simp;have:=Pd.fz (c:=c) (s:=o) (xs:=(xs.drop i).take (j-i)) (a:=if k=i then A else A.map (·.add (i*o.size))) (k:=k-i) (cells:=(cells.drop (i*o.size)).take ((j-i)*o.size)) (by rw[d];omega) N n (cz (c_ v i) (j-i)) ?_
     .rw[d]at this;exact this
     by_cases w:k=i
     .left;have:j-i=0:=by omega
      rw[this];rfl
     rw[X w];rcases L with L|⟨x,y,S,F⟩
     .left;subst L;simp
     right;subst y;exact⟨x.add (i*o.size),rfl,by rw[iq];exact S,(F.drop _).take _⟩
    cases u
   cases B
  cases B
 cases B
variable{te tp:TypeId}
theorem EF(a:Option Addr)(c:P.underlying tp=some (.pointer te)):(binOp .eql tp (.pointer a) (.pointer none)).run P w=.ok (.bool a.isNone) w:=by
 have h:∀d:Nat,(Op.equalIn (d+1) tp (.pointer a) (.pointer none)).run P w=.ok a.isNone w:=λd=>by
  cases a<;>simp[Op.equalIn,C0 c]
 simp[binOp];simp[Op.equal,Op.maxDepth,h 9999]
theorem Gc(a:Option Addr)(c:P.underlying tp=some (.pointer te)):(binOp .neq tp (.pointer a) (.pointer none)).run P w=.ok (.bool !a.isNone) w:=by
 have h:∀d:Nat,(Op.equalIn (d+1) tp (.pointer a) (.pointer none)).run P w=.ok a.isNone w:=λd=>by
  cases a<;>simp[Op.equalIn,C0 c]
 simp[binOp];simp[Op.equal,Op.maxDepth,h 9999]
theorem Dy(op:BinOp)(t:TypeId)(x y:Operand)(a b:Option Addr):eqGuard op t x y (.pointer a) (.pointer b)=pure ():=by cases op<;>rfl
def HI(hT:bG P G.shp T){a:Option Addr}(h:Z6 T t op a.isNone=some r)(i:ev F x=some (.pointer a))(j:ev F y=some (.pointer none)){c:Cx}:∃v,aW P n F w (.binOp op t x y t') ty v w/\Rt c ρ r.v v/\r.fc=[]:=by
 unfold Z6 at h;split at h
 next sz z d=>let⟨e,g⟩:=(hT _ _ d).2;cases h;exact⟨.bool a.isNone,λ_ _ _ _ _ f=>by simp[execOp,f.ev i,f.ev j,Dy,EF a g],Pd.bool (e:=.lit a.isNone),rfl⟩
 next sz z d=>let⟨e,g⟩:=(hT _ _ d).2;cases h;exact⟨.bool !a.isNone,λ_ _ _ _ _ f=>by simp[execOp,f.ev i,f.ev j,Dy,Gc a g],Pd.bool (e:=.lit !a.isNone),rfl⟩
 cases h
variable{op:Op}
def Zc(hT:bG P G.shp T)(_:pe G ρ H w){fr:lg}(C:r7 (cx G ρ w) ρ fr F)(h:pvX T H fr op=some r)(L:∀p∈r.ob,p):
  Yields P n F w op ty λv w'=>Kp [] w w'/\Rt (cx G ρ w') ρ r.v v/\∀p∈r.fc,p:=by
 unfold pvX at h;split at h
 ·-- binOp
  split at h
  .rename_i i o J Q;obtain⟨S,B,g,_,rfl⟩:=az C J;obtain⟨vb,K,I⟩:=az C Q;replace I:vb=.pointer none:=I;subst I;obtain⟨v,U,m1,E⟩:=HI (P:=P) (n:=n) (w:=w) (ty:=ty) (ρ:=ρ) (c:=cx G ρ w) hT (a:=some ⟨g,o,none⟩) h B K;exact y0 U m1 (uM E)
  .rename_i J Q;obtain⟨S,B,D⟩:=az C J;replace D:S=.pointer none:=D;subst D;obtain⟨vb,K,I⟩:=az C Q;replace I:vb=.pointer none:=I;subst I;obtain⟨v,U,m1,E⟩:=HI (P:=P) (n:=n) (w:=w) (ty:=ty) (ρ:=ρ) (c:=cx G ρ w) hT (a:=none) h B K;exact y0 U m1 (uM E)
  .rename_i a b J Q;obtain⟨S,B,D⟩:=az C J;obtain⟨vb,K,I⟩:=az C Q;obtain⟨ka,rfl⟩:=Xo D;obtain⟨kb,rfl⟩:=Xo I;obtain⟨v,U,m1,E⟩:=VX (P:=P) (n:=n) (w:=w) (ty:=ty) (ρ:=ρ) (c:=cx G ρ w) h L ka kb B K;exact y0 U m1 (uM E)
  .rename_i a b J Q;obtain⟨S,B,D⟩:=az C J;obtain⟨vb,K,I⟩:=az C Q;obtain⟨ka,rfl⟩:=Xo D;cases I with|u64 ib=>
   obtain⟨v,U,m1,E⟩:=Xk (P:=P) (n:=n) (w:=w) (ty:=ty) (ρ:=ρ) (c:=cx G ρ w) h L ka B K;exact y0 U m1 (uM E)
  .rename_i a b J Q;obtain⟨S,B,D⟩:=az C J;obtain⟨vb,K,I⟩:=az C Q;cases D with|int ia=>
   cases I with|u64 ib=>
   unfold iSh at h;split at h
   .cases h;have g0:=L _ (.head _);have g1:=L _ (.tail _ (.head _));obtain⟨m,rfl⟩:=y6 g0;have hd:=O4 m (2^b);refine y0 (R.Rk B K (T5 g1)) ?_ aa;rw[G3];generalize m/2^b=q at hd;exact Pd.int ⟨N,by have:=ia.2;omega⟩
   cases h
  cases h
 ·-- convert
  split at h
  .rename_i b hs hd J;cases h;obtain⟨S,B,D⟩:=az C J;cases D with|u8=>
   have e1:=(hT _ _ hs).2;have e2:=(hT _ _ hd).2;have:=R.conv (P:=P) (n:=n) (w:=w) (ty:=ty) B e1 e2
   have V:=b.toNat_lt;rw[wrap_u32 N]at this;exact y0 this (Dd N) aa
  .rename_i m hs hd J;cases h;obtain⟨S,B,D⟩:=az C J;obtain⟨_,rfl⟩:=Xo D;exact y0 (R.ae1 B (hT _ _ hs).2 (hT _ _ hd).2) Pd.u8 aa
  cases h
 ·-- lookup
  split at h
  .rename_i kt et z sz zz l k Z J Q;obtain⟨hm,hk,hz⟩:=(hT _ _ Z).2;obtain⟨S,B,us,D,K⟩:=az C J;obtain⟨vb,I,U⟩:=az C Q;cases U with|int=>
   obtain⟨_,g,a,n',rfl,_,hg,x,hv⟩:=K;have y:U2 z l=true->(getM k a.toList).getD (.agg (z.map KC.val).toArray)=.agg (((eY l k).getD z).map KC.val).toArray/\(getM k a.toList).isSome=(eY l k).isSome:=λ_=>by
    rw[hv k];cases eY l k<;>exact⟨rfl,rfl⟩
   have v2:U2 z l=true->eh (cx G ρ w) ρ (.agg (Ev ((eY l k).getD z) 0 z)) (.agg (((eY l k).getD z).map KC.val).toArray):=λV=>⟨_,rfl,tD (Gr V) λj=>by rw[A3]⟩;split at h
   .rename_i V;cases h;have v6:=R.tO (P:=P) (n:=n) (ty:=ty) false B I hm hk hz hg x;rw[X am,(y V).1]at v6;exact y0 v6 (v2 V) aa
   .rename_i V;cases h;have v6:=R.tO (P:=P) (n:=n) (ty:=ty) true B I hm hk hz hg x;rw[O rfl,(y V).1,(y V).2]at v6;exact y0 v6 ⟨_,rfl,.cons (v2 V) (.cons (Pd.bool (e:=.atom _)) .nil)⟩ aa
   cases h
  cases h
 ·-- field
  rename_i i;split at h
  .rename_i fs sz z cs Z J hmem;split at h
   .rename_i o k hi;split at h
    .rename_i a ha;cases h;obtain⟨_,Fs,hu,hm,hp,_,hfl⟩:=hT _ _ Z;obtain⟨f,d,hf1,hf2,hf3⟩:=hfl _ hmem;obtain⟨f',hf',hfs⟩:=Af hm _ _ hi;have e:f'=f:=by
      have:Fs[i]? =some f':=by simpa using hf'
      rw[this]at hf1;exact D4 hf1
     subst e;rw[I0]at hfs;obtain⟨inf,hinf,he⟩:=hfs;cases he;obtain⟨S,B,us,rfl,D⟩:=az C J;obtain⟨u,hu1,hu2⟩:=e_ D _ _ ha;exact y0 (R.ad8 B hu hf1 hf2 hf3 hu1) hu2 aa
    cases h
   cases h
  cases h
 ·-- makeFunc
  rename_i f b c;split at h
  .rename_i bs cs V hc;split at h
   .rename_i bp cp hbp hcp;cases h;obtain⟨bv,B,D⟩:=nY C V;obtain⟨cv,K,I⟩:=nY C hc;have:=R.Kx (P:=P) (n:=n) (w:=w) (ty:=ty) (f:=f) B K;rw[show b.toList.toArray=b by simp,show c.toList.toArray=c by simp]at this;exact y0 this ⟨bv,cv,qm hbp D,qm hcp I,rfl⟩ aa
   cases h
  cases h
 ·-- indexAddr
  split at h
  .rename_i id i m e sz z J Q Z;split at h
   .rename_i tb cs z1 hH hfe;split at h
    .rename_i hck;cases h;have h0:=L _ (.head _);have h1':=L _ (.tail _ (.head _));obtain⟨j,rfl⟩:=y6 h0;obtain⟨S,B,D⟩:=az C J;obtain⟨vb,K,I⟩:=az C Q;cases I with|int=>
     obtain⟨g,hg,rfl⟩:fw ρ (id,0) S:=D;have hse:=(hT _ _ hfe).1.1;exact y0 (R.jK B K (hT _ _ Z).2 hse N) ⟨g,hg,by rw[G3]⟩ aa
    cases h
   cases h
  cases h
 ·-- slice,three places
  split at h
  .rename_i a l' h' m' J hl hh hm;obtain⟨S,B,D⟩:=az C J;obtain⟨vl,K,I⟩:=az C hl;obtain⟨vh,U,m1⟩:=az C hh;obtain⟨vm,E,h8⟩:=az C hm;cases I with|int=>
   cases m1 with|int=>
   cases h8 with|int=>
   obtain⟨e,s,A,len,cap,i,j,k,hu,hi,rfl,rfl,rfl,rfl,b1,b2,b3,v2,hfc⟩:=vu (P:=P) hT h L D;exact y0 (R.slice3 B K U E hu hi b1 b2 b3) v2 (uM hfc)
  cases h
 .split at h
  .rename_i a h' m' J hh hm;obtain⟨S,B,D⟩:=az C J;obtain⟨vh,U,m1⟩:=az C hh;obtain⟨vm,E,h8⟩:=az C hm;cases m1 with|int=>
   cases h8 with|int=>
   obtain⟨e,s,A,len,cap,i,j,k,hu,hi,rfl,hi0,rfl,rfl,b1,b2,b3,v2,hfc⟩:=vu (P:=P) hT h L D;obtain rfl:i=0:=by omega
   exact y0 (R.Vn B U E hu hi b2 b3) v2 (uM hfc)
  cases h
 .rename_i t m3;split at h
  .rename_i m e sz z l ht hl;split at h
   .rename_i cs he V;cases h;obtain⟨pv,B,D⟩:=lW C hl;obtain⟨us,K,I⟩:=uk (P:=P) (n:=n) (w:=w) (ty:=ty) hT ht (hT _ _ he).1.1 B D V;have e:m3.toList.toArray=m3:=by simp
    rw[e]at K;exact y0 K ⟨us,rfl,I⟩ aa
   cases h
  cases h
 cases h
def zF(hT:bG P G.shp T)(g:dN P G.shp m3)(e:pe G ρ H w){fr:lg}(f:r7 (cx G ρ w) ρ fr F)(h:pv T m3 H fr op=some r)(c:∀p∈r.ob,p):
  Yields P n F w op ty λv d=>Kp [] w d/\Rt (cx G ρ d) ρ r.v v/\∀p∈r.fc,p:=by
 unfold pv at h;split at h
 .grind[Xp]
 exact Zc hT e f h c
end
def mb(d:Option Nat)(v:Value)(F:Fr):Fr:=match d with
 |some d=>(d,v)::F
 |none=>F
def nM(n:Nat):List Oper->Bool
 |[]=>true
 |o::r=>(match o.dst with
  |some d=>Nat.blt d n
  |none=>true)&&nM n r
def oU{n:Nat}:∀{l:List Oper},nM n l=true->∀o∈l,∀d,o.dst=some d->Nat.blt d n=true
 |[],_,_,h,_,_=>by simp at h
 |a::r,h,o,ho,d,b=>by
  simp[nM]at h;rcases v7.1 ho with rfl|ho
  .grind
  exact oU h.2 o ho d b
section
variable{P:Program}{Q:Exit->Act->World->Prop}{n:Nat}{l rest:List Oper}{F:Fr}{w:World}{op:Op}{ty:TypeId}{pos:String}{af:Array Edge}
variable{d:Option Nat}
theorem WO.y{φ:Value->World->Prop}(h:Yields P n F w op ty φ)(g:∀i,d=some i->Nat.blt i n=true)(k:∀v e,φ v e->WO P Q n l rest (mb d v F) e):WO P Q n l (⟨d,op,ty,pos,af,none⟩::rest) F w:=by
 cases d with
 |some d=>
  rcases h with⟨v,e,a,b⟩|⟨f,args,a,b⟩
  .exact WO.v a (g _ rfl) (k v e b)
  exact WO.c a b (g _ rfl) k
 |none=>
  rcases h with⟨v,e,a,b⟩|⟨f,args,a,b⟩
  .exact WO.v0 a (k v e b)
  exact WO.c0 a b k
variable{ρ:List RE}{i:Nat}
def JB{c:Cx}{fr:lg}(h:r7 c ρ fr F)(a:l6 fr i=none):look F i=none:=by
 induction h with
 |nil=>rfl
 |@cons p q fr F b _ e=>
  let⟨f,g⟩:=q;unfold l6 at a;unfold look;grind
theorem jw{c:Cx}{fr:lg}(h:r7 c ρ fr F)(a:ko fr d=true):∀b,d=some b->look F b=none:=by
 rintro b rfl;simp[ko]at a;split at a
 next e=>exact JB h e
 cases a
def k_{F:Fr}{i:Nat}{v:Value}(b:look F i=some v):∀{a:Fr},(∀q∈a,look F q.1=none)->look (a++F) i=some v
 |[],_=>b
 |(j,u)::a,h=>by
  rw[E4,b_];by_cases c:j=i
  .simp_all
  rw[X c];exact k_ b λq e=>h q (by simp[e])
variable{us:Fr}
def WO.drop(h:∀q∈us,look F q.1=none)(k:WO P Q n l rest F w):WO P Q n l rest (us++F) w:=λa b=>k a (b.sub λ_ _ c=>k_ c h)
def WO.Za{x:Nat×Value}(h:∀q∈us,look F q.1=none)(k:WO P Q n l rest (x::F) w):WO P Q n l rest (x::(us++F)) w:=λa c=>k a (c.sub λi v b=>by
 let⟨j,u⟩:=x;rw[b_]at b⊢;by_cases e:j=i
 .grind
 rw[X e]at b⊢;exact k_ b h)
def Ju(h:∀q∈us,q.1≠i):look (us++F) i=look F i:=Cn h
def yB{a b:Option (Nat×Bool)}(h:Mr a b=true):a=b:=by
 unfold Mr at h;split at h
 .rfl
 .simp_all
 cases h
def uj{F:Fr}{q:Nat×Value}:∀{us:Fr},q∈us->(∀q∈us,q.2=undef)->look (us++F) q.1=some undef
 |(i,u)::us,e,a=>by
  rw[E4,b_];by_cases b:i=q.1
  .simp_all
  rw[X b];refine uj ?_ (λz c=>a z (by simp[c]));grind
def nQ{fr:lg}{c:Cx}{ρ:List RE}(C:r7 c ρ fr F){j t:Nat}{J b:Bool}(s:s5 l j=some t)(u:look F t=some (.bool b))(v:b= !J):∀{p:List Oper} {us:Fr},Ez l fr j J (us.map (·.1)) p=true->nM n p=true->(∀q∈us,look F q.1=none/\q.2=undef)->WO P Q n l rest F w->WO P Q n l (p++rest) (us++F) w
 |[],us,_,_,a,k=>WO.drop (λq hq=>(a q hq).1) k
 |o::r,us,h,G,a,k=>by
  have x:=oU G o aa;have f:nM n r=true:=by simp[nM]at G;exact G.2
  let⟨dst,op,ty,pos,af,g⟩:=o;simp[Ez]at h;let⟨⟨R,h2⟩,D⟩:=h;have H:∀q∈us,q.1≠t:=λq hq e=>by have:=(a q hq).1;rw[e,u]at this;cases this
  have y:look (us++F) t=some (.bool b):=by rw[Ju H];exact u
  cases g with
  |none=>cases h2
  |some g=>
  simp only[H2,r3,beq_iff_eq]at h2;have m:∀d,dst=some d->∀q∈((d,undef)::us:Fr),look F q.1=none/\q.2=undef:=λd K q hq=>by
   rcases v7.1 hq with rfl|hq
   .grind[jw]
   grind
  rcases h2 with⟨I,L⟩|h2
  .have I:=ts I;subst I;subst L;cases dst with
   |some d=>exact WO.off s y v (x d rfl) (nQ C s u v (us:=(d,undef)::us) D f (m d rfl) k)
   |none=>exact WO.al9 s y v (nQ C s u v D f a k)
  split at h2
  .rename_i S A;obtain⟨q,hq,rfl⟩:=M7.1 (cu.1 h2);have B:look (us++F) q.1=some undef:=uj hq λz i=>(a z i).2;cases dst with
   |some d=>exact WO.ajv A B (x d rfl) (nQ C s u v (us:=(d,undef)::us) D f (m d rfl) k)
   |none=>exact WO.aa4 A B (nQ C s u v D f a k)
  cases h2
def r_{t:Nat}:∀{g f e:List Oper} {j:Oper},uy t g=some (f,j,e)->g=f++j::e/\sf t j=true
 |[],_,_,_,h=>by cases h
 |o::r,f,e,j,h=>by
  unfold uy at h;cases k:sf t o<;>rw[k]at h
  .simp at h;split at h
   next a b c m=>let⟨p,q⟩:=r_ m;grind
   cases h
  grind
theorem uc{n:Nat}:∀{a b:List Oper},nM n (a++b)=true↔nM n a=true/\nM n b=true
 |[],b=>by simp[nM]
 |o::r,b=>by simp[nM,uc,and_assoc]
end
def gW:∀{l:List Prop},lu l↔∀p∈l,p
 |[]=>by simp[lu]
 |[p]=>⟨λh q a=>by rw[D0.1 a];exact h,λh=>h p (v8 _)⟩
 |p::q::l=>by
  have:=gW (l:=q::l);simp only[lu,this,List.forall_mem_cons]
variable{w:Bool}{e:BE}
def Jx{ob:List Prop}(h:∀p∈rm e w ob,p)(a:e.val=w):∀p∈ob,p:=by
 cases ob with
 |nil=>simp
 |cons p ob=>exact gW.1 (h _ (v8 _) ((BE.h_ e w).2 a))
def yj{ob:List Prop}(h:e.val=w->∀p∈ob,p):∀p∈rm e w ob,p:=by
 cases ob with
 |nil=>simp[rm]
 |cons p ob=>
  intro q a;rw[D0.1 a];exact λb=>gW.2 (h ((BE.h_ e w).1 b))
def gQ{a:Option TV}(h:BY a=some e):a=some (one (.bool e)):=by
 unfold BY at h;split at h
 .cases h;rfl
 cases h
section
variable{P:Program}{T:List (Nat×TI)}{G:Gl}{m3:ic}{Q:Exit->Act->World->Prop}{n:Nat}{l:List Oper}{ρ:List RE}{H:AH}
def S4(l:List Oper)(fr:lg)(g:Option (Nat×Bool)):=∀j a,g=some (j,a)->∃t e,s5 l j=some t/\l6 fr t=some (one (.bool e))/\e.val=a
variable{j:Nat}
theorem eI{i:Nat}{v:TV}{r:lg}:l6 ((j,v)::r) i=if j=i then some v else l6 r i:=by
 show(bif Nat.beq j i then some v else l6 r i)=_;simp_all
theorem S4.put{fr:lg}{g:Option (Nat×Bool)}(h:S4 l fr g){d:Option Nat}{v:TV}(b:ko fr d=true):S4 l (td d v fr) g:=by
 intro j c f;let⟨t,e,i,a,k⟩:=h j c f;refine⟨t,e,i,?_,k⟩;cases d with
 |none=>exact a
 |some d=>
  show l6 ((d,v)::fr) t=_;rw[eI,X]
  .exact a
  rintro rfl;simp only[ko,a]at b;cases b
variable{w:World}{F:Fr}
def WO.onG{fr:lg}{g:Option (Nat×Bool)}(h:S4 l fr g)(i:r7 (cx G ρ w) ρ fr F){A:Fr}(m:∀x∈A,look F x.1=none){dst:Option Nat}{c:Op}{d:TypeId}{b:String}{f:Array Edge}{a:List Oper}
  (k:WO P Q n l (⟨dst,c,d,b,f,none⟩::a) (A++F) w):WO P Q n l (⟨dst,c,d,b,f,g⟩::a) (A++F) w:=by
 cases g with
 |none=>exact k
 |some g=>
  let⟨j,o⟩:=g;let⟨t,e,p,q,r⟩:=h j o rfl;let⟨v,s,u⟩:=fS i q;cases u with|bool=>
  exact WO.on p (k_ s m) r k
def akC(P:Program)(G:Gl)(Q:Exit->Act->World->Prop)n(l:List Oper)(ρ:List RE)(H:AH)(d:Option (Nat×Bool)->List Oper->lg->Option GR):=
 ∀(g:Option (Nat×Bool)) (b a:List Oper) (fr:lg) (q:GR) (F:Fr) (w:World),d g b fr=some q->S4 l fr g->(∀p∈q.ob,p)->nM n b=true->pe G ρ H w->r7 (cx G ρ w) ρ fr F->
  (∀A c,Kp [] w c->(∀p∈q.fc,p)->r7 (cx G ρ c) ρ q.fr (A++F)->r7 (cx G ρ c) ρ fr F->(∀x∈A,look F x.1=none)->WO P Q n l a (A++F) c)->WO P Q n l (b++a) F w
def r7.kp{fr:lg}{a:World}(h:r7 (cx G ρ w) ρ fr F)(k:Kp [] w a):=h.ed (Kp.le k) (mz.refl _)
def GJ{v6:Option (Nat×Bool)->List Oper->lg->Option GR}(T:akC P G Q n l ρ H v6){g:Option (Nat×Bool)}{S tl:List Oper}{fr:lg}{J:Bool}{r:U8}(h:UT l fr g v6 j J S=some r)(hg:S4 l fr g)(hob:∀p∈r.ob,p)(hd:nM n S=true)(hR:pe G ρ H w)(U:r7 (cx G ρ w) ρ fr F)
  (k:∀o,Kp [] w o->(∀p∈r.fc,p)->look F r.d=none->ko fr (some r.d)=true->r7 (cx G ρ o) ρ fr F->Nat.blt r.d n=true->nM n r.tail=true->WO P Q n l (r.tail++tl) ((r.d,.bool r.v.val)::F) o):WO P Q n l (S++tl) F w:=by
 unfold UT at h;split at h
 .rename_i t hj;split at h
  .rename_i e grp pk K he hs;split at h
   .rename_i q hck hq;simp at hck;let⟨⟨hoff,B⟩,f⟩:=hck;split at h
    .rename_i z x y d hpk C;split at h
     .rename_i v D;cases h;let⟨hops,V⟩:=r_ hs;subst hops;replace B:=yB B;replace he:=gQ he;let⟨vt,hvt,hvr⟩:=fS U he;cases hvr with|bool=>
      let⟨hd1,v2⟩:=uc.1 hd;have hd3:nM n K=true:=by simp[nM,r3]at v2;exact v2.2
      have m1:=oU v2 pk aa d C;rw[C]at f;have hFd:=jw U f d rfl;let⟨dst,op,ty,pos,af,pg⟩:=pk;simp only at hpk C B;subst hpk;subst C;subst B;have hz:z=.tmp t:=by
       cases z<;>simp only[sf]at V
       .rw[ts V]
       all_goals cases V
      subst hz;rw[J9,E4]
      have L:∀(A:Fr) (o:World) (b:Bool),e.val=b->(∀u∈A,look F u.1=none)->Kp [] w o->(∀p∈rm e J q.fc,p)->r7 (cx G ρ o) ρ fr F->(∃u,ev (A++F) (cond b x y)=some (.bool u)/\u=v.val)->WO P Q n l (⟨some d,.pick (.tmp t) x y,ty,pos,af,pg⟩::(K++tl)) (A++F) o:=by
       rintro A o b hb hA hk E I ⟨u,hu,hv2⟩;subst hv2;refine WO.onG (G:=G) (ρ:=ρ) hg I hA ?_;have hl:=k_ hvt hA;have key:=WO.Za (x:=(d,.bool v.val)) hA (k o hk E hFd f I m1 hd3);cases b with
       |true=>exact WO.v (R.Pf hl hb hu) m1 key
       |false=>exact WO.v (R.NY hl hb hu) m1 key
      unfold aa2 at D;by_cases i:e.val=J
      ·-- it is v6
       refine T (some (j,J)) grp _ fr q F w hq (λj' o hjw=>by cases hjw;exact⟨t,e,hj,he,i⟩) (Jx hob i) hd1 hR U λA o hk E hfq I hA=>?_;refine L A o J i hA hk (yj λ_=>E) I ?_;split at D
       .rename_i a s c;cases D;let⟨u,Z,m3⟩:=az hfq (gQ s);cases m3 with|bool=>
        exact⟨_,Z,by simp[BE.val,i]⟩
       .rename_i a s c;cases D;let⟨u,Z,m3⟩:=az hfq (gQ s);cases m3 with|bool=>
        exact⟨_,Z,by simp[BE.val,i]⟩
       cases D
      have m:e.val= !J:=by revert i;cases e.val<;>cases J<;>simp
      refine nQ (us:=[]) U hj hvt m hoff hd1 aa (L [] w (!J) m aa (Kp.refl w) (yj λhh=>absurd hh i) U ?_);split at D
      .rename_i a s c;cases D;let⟨u,Z,m3⟩:=az U (gQ c);cases m3 with|bool=>
       exact⟨_,Z,by simp[BE.val,m]⟩
      .rename_i a s c;cases D;let⟨u,Z,m3⟩:=az U (gQ c);cases m3 with|bool=>
       exact⟨_,Z,by simp[BE.val,m]⟩
      cases D
     cases h
    cases h
   cases h
  cases h
 cases h
def qy(hT:bG P G.shp T)(V:dN P G.shp m3):∀m,akC P G Q n l ρ H (Ky T m3 l H m)
 |0=>λg J b fr q F w h=>by cases J<;>cases h
 |m+1=>by
  intro g J b fr q F w h R u m1 y z k;cases J with
  |nil=>
   cases h;exact k [] w (Kp.refl w) aa z z aa
  |cons o I=>
   have E:=oU m1 o aa;have Z:nM n I=true:=by simp[nM,r3]at m1;exact m1.2
   unfold Ky at h;split at h
   .rename_i B;replace B:=yB B;split at h
    .rename_i r K S;split at h
     .rename_i q2 C;cases h;obtain⟨dst,op,ty,pos,af,og⟩:=o;simp only at B K S E C;subst B;rw[E4];refine WO.onG (A:=[]) (G:=G) (ρ:=ρ) R z aa ?_;change WO P Q n l _ F w;refine WO.y (zF (ty:=ty) hT V y z S λp hp=>u p (by simp[hp])) E λv U ⟨a,hv1,c⟩=>?_;have D:r7 (cx G ρ U) ρ (td dst r.v fr) (mb dst v F):=by
       cases dst with
       |some d=>exact .cons ⟨rfl,hv1⟩ (z.kp a)
       |none=>exact z.kp a
      refine qy hT V m og I b _ q2 _ U C (R.put K) (λp hp=>u p (by simp[hp])) Z (y.kp a) D λA w2 f i s _ hA=>?_;have L:∀x∈A++mb dst v [],look F x.1=none:=by
       intro x hx;rcases A7.1 hx with hx|hx
       .have:=hA x hx;cases dst with
        |none=>exact this
        |some d=>
         simp[mb]at this;rw[b_]at this;by_cases t:d=x.1
         .rw[O t]at this;cases this
         rw[X t]at this;exact this
       cases dst with
       |none=>simp[mb]at hx
       |some d=>simp[mb,D0]at hx;subst hx;exact jw z K d rfl
      have e:A++mb dst v F=(A++mb dst v [])++F:=by cases dst<;>simp[mb]
      rw[e]at s⊢;exact k _ w2 (a.trans f) (λp hp=>by
       rcases A7.1 hp with hp|hp
       .exact c p hp
       exact i p hp) s ((z.kp a).kp f) L
     cases h
    cases h
   split at h
   .rename_i j wt hog;split at h
    .rename_i r hgr;split at h
     .rename_i q2 C;cases h;refine GJ (G:=G) (H:=H) (qy hT V m) hgr R (λp hp=>u p (by simp[hp])) m1 y z λU a c hFd hfd D hbd hdt=>?_;have hf2:r7 (cx G ρ U) ρ ((r.d,one (.bool r.v))::fr) ((r.d,.bool r.v.val)::F):=.cons ⟨rfl,Pd.bool⟩ D;refine qy hT V m g r.tail b _ q2 _ U C (R.put (d:=some r.d) hfd) (λp hp=>u p (by simp[hp])) hdt (y.kp a) hf2 λA w2 f i s _ hA=>?_;have L:∀x∈A++[(r.d,Value.bool r.v.val)],look F x.1=none:=by
       intro x hx;rcases A7.1 hx with hx|hx
       .have:=hA x hx;rw[b_]at this;by_cases t:r.d=x.1
        .rw[O t]at this;cases this
        rw[X t]at this;exact this
       simp at hx;subst hx;exact hFd
      have e:A++((r.d,Value.bool r.v.val)::F)=(A++[(r.d,Value.bool r.v.val)])++F:=by simp
      rw[e]at s⊢;exact k _ w2 (a.trans f) (λp hp=>by
       rcases A7.1 hp with hp|hp
       .exact c p hp
       exact i p hp) s (D.kp f) L
     cases h
    cases h
   cases h
end
variable{ρ:List RE}{r:RE}{i:Nat}
def wm{a:RE}(h:ρ[i]? =some a):(ρ++[r])[i]? =some a:=by
 rw[E0 (sy.1 h).1];exact h
structure u6(ro:Lv)(ρ:List RE)(w:World)(ρ':List RE)(w':World):Prop where
 ext:u7 ρ w ρ' w'
 loc:∀(i:Nat) (r:RE),ro.mv i=false->ρ[i]? =some r->ρ'[i]? =some r
 L4:∀(i:Nat) (r:RE),ro.wr i=false->ρ[i]? =some r->ρ'[i]? =some r/\∀g,r.g?=some g->w'.heap[g]? =w.heap[g]?
 bx:∀(i g:Nat),ρ[i]? =some (.blk g)->ρ'[i]? =some (.blk g)
def u6.refl(a:Lv)(ρ:List RE)(w:World):u6 a ρ w ρ w:=⟨u7.refl _ _,λ_ _ _ h=>h,λ_ _ _ h=>⟨h,λ_ _=>rfl⟩,λ_ _ h=>h⟩
def u6.trans{m:Lv}{f j l:List RE}{a b c:World}(h:u6 m f a j b)(k:u6 m j b l c):u6 m f a l c:=
 ⟨h.ext.trans k.ext,λi r d n=>k.loc i r d (h.loc i r d n),λi r d n=>by
  let⟨p,q⟩:=h.L4 i r d n;let⟨s,t⟩:=k.L4 i r d p;exact⟨s,λg o=>(t g o).trans (q g o)⟩,λi g d=>k.bx i g (h.bx i g d)⟩
def u6.kp{b:Lv}{G:Gl}{H:AH}{ρ:List RE}{w a:World}(c:pe G ρ H w)(k:Kp [] w a):u6 b ρ w ρ a:=
 ⟨u7.kp k,λ_ _ _ h=>h,λ_ r _ h=>⟨h,λg d=>k.block g (c.u0 _ r g h d).2.1 aa⟩,λ_ _ h=>h⟩
theorem u6.qs{c:Lv}{G:Gl}{H:AH}{ρ:List RE}{w a:World}{r:RE}(d:pe G ρ H w)(k:Kp [] w a)(f:∀b,r.g?=some b->w.heap.size<=b):u6 c ρ w (ρ++[r]) a:=
 ⟨u7.qs k f,λ_ _ _ h=>wm h,λi j _ h=>⟨wm h,λg l=>k.block g (d.u0 _ j g h l).2.1 aa⟩,λ_ _ h=>wm h⟩
section
variable{c c':Cx}{ρ ρ':List RE}{g:AV->AV}
variable{vs:List Value}
def He(d:∀a v,Rd c ρ a v->Rd c' ρ' (g a) v){b:List AV}(h:hY (Rd c ρ) b vs):hY (Rd c' ρ') (uY g b) vs:=by
 induction h with
 |nil=>exact .nil
 |cons h _ f=>exact .cons (d _ _ h) f
def Ag(b:∀a v,Rd c ρ a v->Rd c' ρ' (g a) v){t:oh}{v:Value}(h:eh c ρ t v):eh c' ρ' (t.mapA g) v:=by
 cases t with
 |c a=>exact b _ _ h
 |agg l=>obtain⟨vs,rfl,h⟩:=h;exact⟨vs,rfl,He b h⟩
def HY(d:∀a v,Rd c ρ a v->Rd c' ρ' (g a) v){b:List oh}(h:hY (eh c ρ) b vs):hY (eh c' ρ') (z_ g b) vs:=by
 induction h with
 |nil=>exact .nil
 |cons h _ f=>exact .cons (Ag d h) f
def vM(d:∀a v,Rd c ρ a v->Rd c' ρ' (g a) v){fr:lg}{F:Fr}(h:r7 c ρ fr F):r7 c' ρ' (kS g fr) F:=by
 induction h with
 |nil=>exact .nil
 |@cons p q fr F h _ f=>
  let⟨i,t⟩:=p;refine .cons ⟨h.1,?_⟩ f;have b:=h.2;cases t with
  |one t=>exact Ag d b
  |D8 l=>let⟨vs,e,b⟩:=b;exact⟨vs,e,HY d b⟩
  |un=>trivial
theorem tJ:∀l:List (Int×AV),mapM g l=l.map λq=>(q.1,g q.2)
 |[]=>rfl
 |(k,a)::r=>by simp[mapM,tJ r]
theorem oe:∀{H:AH} {i:Nat},(kW g H)[i]? =(H[i]?).map (AO.mapA g)
 |[],i=>by simp[kW]
 |o::r,0=>by simp[kW]
 |o::r,i+1=>by simpa[kW] using oe (H:=r) (i:=i)
theorem gr:∀{H:AH},(kW g H)=H.length
 |[]=>rfl
 |_::r=>by simp[kW,gr]
def OR.map(p:c.le c')(x:∀a v,Rd c ρ a v->Rd c' ρ' (g a) v){o:AO}{r:RE}(h:OR c ρ o r)(j:∀g,r.g?=some g->c'.w.heap[g]? =c.w.heap[g]?):OR c' ρ' (o.mapA g) r:=by
 cases o with
 |gone=>exact h
 |s6 s f=>
  obtain⟨b,rfl,h⟩:=h;exact⟨b,rfl,h.ed p (j b rfl)⟩
 |loc=>trivial
 |r9 l=>
  obtain⟨b,rfl,h⟩:=h;exact⟨b,rfl,h.map (g0:=g) (tJ l) (λ_ _ v h=>x _ v h) (j b rfl)⟩
 |A8 t s n y=>
  obtain⟨b,vs,rfl,k,m,q⟩:=h;exact⟨b,vs,rfl,(j b rfl).trans k,m.ed p,q⟩
 |box t D=>
  obtain⟨b,vs,rfl,k,m⟩:=h;exact⟨b,vs,rfl,(j b rfl).trans k,He x m⟩
 |row t s y=>
  let⟨k,m,q⟩:=h;refine⟨p.shp▸k,m,q.imp id ?_⟩;rintro⟨b,u,d,z,rfl,A,B,C⟩;exact⟨b,u,d,z,rfl,(j b rfl).trans A,B.ed p,C⟩
end
def kv{j:Nat}(a:i≠j):(ρ.set i r)[j]? =ρ[j]?:=N9 a
def CS{b:Nat}(h:live (ρ.set i r) b):live ρ b\/r.g?=some b:=by
 let⟨j,d,c,f⟩:=h;by_cases a:i=j
 .grind
 rw[kv a]at c;exact .inl ⟨j,d,c,f⟩
section
variable{G:Gl}{ρ:List RE}{H:AH}{w:World}
variable{t:TypeId}
def rJ(a:pe G ρ H w){s:Sh}{f:List (l7 s)}(b:l9 H i=.row t s f):(∀g,ρ[i]? ≠some (.blk g))/\i<ρ/\i<H:=by
 have j:=cC b aa;have c:=(sy.1 j).1;refine⟨λg d=>?_,by rw[<-a.obj.length];exact c,c⟩;rcases cS a b with⟨h,_⟩|⟨_,_,_,_,h,_⟩<;>rw[h]at d<;>cases d
variable{ro:Lv}
def arX(C:pe G ρ H w){s:Sh}{m3:List (l7 s)}(hi:l9 H i=.row t s m3)(hro:ro.mv i=true)(P:ro.wr i=true):
  (∀a v,Rd (cx G ρ w) ρ a v->Rd (cx G (ρ.set i .no) w) (ρ.set i .no) (a.JR H i) v)/\pe G (ρ.set i .no) ((kW (AV.JR H i) H).set i .gone) w/\u6 ro ρ w (ρ.set i .no) w/\(cx G ρ w).le (cx G (ρ.set i .no) w):=by
 obtain⟨K,F,hiH⟩:=rJ C hi;have J:u7 ρ w (ρ.set i .no) w:=⟨rfl,rfl,rfl,tw _,λb _ hl=>⟨λh=>(CS h).elim hl (by rintro⟨⟩),rfl⟩⟩;have d:=J.le C.lo;have u:∀j r,i≠j->ρ[j]? =some r->(ρ.set i .no)[j]? =some r:=λj r c h=>by rw[kv c];exact h
 have B:∀q v,fw ρ q v->fw (ρ.set i .no) q v:=λq v ⟨g,m,y⟩=>⟨g,u _ _ (λe=>K g (e▸m)) m,y⟩;have Q:∀a v,Rd (cx G ρ w) ρ a v->Rd (cx G (ρ.set i .no) w) (ρ.set i .no) (a.JR H i) v:=by
  intro a v h;have T:∀g p len z,ρ[i]? =some (.row g p len z)->(cx G (ρ.set i .no) w).S g:=λg p len z m=>by
   have D:=C.u0 _ _ g m rfl;refine⟨D.2.1,λhl=>?_,D.2.2⟩;obtain⟨j,r',y,L⟩:=hl;by_cases c:i=j
   .subst c;rw[G5 F]at y;cases y;cases L
   rw[kv c]at y;exact c (C.inj _ _ _ _ g m y rfl L)
  cases a with
  |own j=>
   simp[AV.JR];cases D:Nat.beq i j
   .have c:i≠j:=by rintro rfl;simp at D
    rcases h with⟨g,p,len,z,h,e⟩|⟨h,e⟩
    .exact .inl ⟨g,p,len,z,u _ _ c h,e⟩
    exact .inr ⟨u _ _ c h,e⟩
   have c:=ts D;subst c;simp;have U:(AV.own i).vw H=.fz s m3:=by simp[AV.vw,hi]
   rw[U];refine mF (pP C d rfl h (λg p len z ⟨id,I,m⟩=>?_) U);rcases I with I|⟨_,_,I⟩<;>cases I;exact T g p len z m
  |sub j o k=>
   simp[AV.JR];cases D:Nat.beq i j
   .have c:i≠j:=by rintro rfl;simp at D
    rcases h with⟨g,p,len,z,h,e⟩|⟨h,e⟩
    .exact .inl ⟨g,p,len,z,u _ _ c h,e⟩
    exact .inr ⟨u _ _ c h,e⟩
   have c:=ts D;subst c;simp;have U:(AV.sub i o k).vw H=.fz s ((m3.drop o).take k):=by simp[AV.vw,hi]
   rw[U];refine mF (pP C d rfl h (λg p len z ⟨id,I,m⟩=>?_) U);rcases I with I|⟨_,_,I⟩<;>cases I;exact T g p len z m
  |y8 j k o=>
   simp[AV.JR];cases D:Nat.beq i j
   .have c:i≠j:=by rintro rfl;simp at D
    let⟨g,p,len,z,h,e⟩:=h;exact⟨g,p,len,z,u _ _ c h,e⟩
   exact Rd.one h
  |ptr j o=>exact B _ _ h
  |mq j=>
   let⟨g,m,e⟩:=h;exact⟨g,u _ _ (λe=>K g (e▸m)) m,e⟩
  |fn f b cs=>
   let⟨bs,us,m,y,e⟩:=h;exact⟨bs,us,m.imp λ_ _ h=>B _ _ h,y.imp λ_ _ h=>B _ _ h,e⟩
  |fe s' x o=>
   let⟨A,E,m,y,L,e⟩:=h;exact⟨A,E,(d.S _ m).1,y,L.ed d,e⟩
  |np=>exact h
  |nf=>exact h
  |yl l=>exact h
  |xx k cs=>
   let⟨us,m,y⟩:=h;exact⟨us,m.imp λ_ _ h=>B _ _ h,y.le d⟩
  |dead=>exact h
  |int n=>exact Pd.ed h d
  |u8 b=>exact Pd.ed h d
  |u64 n=>exact Pd.ed h d
  |bool e=>exact Pd.ed h d
  |str s=>exact Pd.ed h d
  |em b=>exact Pd.ed h d
  |li nw m3=>exact Pd.ed h d
  |fz s m3=>exact Pd.ed h d
 refine⟨Q,⟨dw (by simp[gr,C.obj.length]) λj o r V hr=>?_,λa b r r' g m y L h4=>?_,λj r g m y=>?_,C.z,C.b0,C.tb.ed d⟩,⟨J,λj r S h=>u j r (by rintro rfl;rw[hro]at S;cases S) h,λj r S h=>⟨u j r (by rintro rfl;rw[P]at S;cases S) h,λ_ _=>rfl⟩,λj g h=>u j _ (λe=>K g (e▸h)) h⟩,d⟩
 .by_cases c:i=j
  .subst c;rw[G5 (by rw[gr];exact hiH)]at V;rw[G5 F]at hr;cases V;cases hr;rfl
  rw[N9 c,oe]at V;rw[kv c]at hr;rw[I0]at V;obtain⟨o',ho',rfl⟩:=V;let⟨r',m1,hor⟩:=C.at_ ho';rw[hr]at m1;cases m1;exact hor.map d Q λ_ _=>rfl
 .have R:∀a (r:RE),(ρ.set i .no)[a]? =some r->r.g?=some g->ρ[a]? =some r:=λa r m y=>by
   by_cases Z:i=a
   .subst Z;rw[G5 F]at m;cases m;cases y
   rw[kv Z]at m;exact m
  exact C.inj a b r r' g (R a r m L) (R b r' y h4) L h4
 by_cases c:i=j
 .subst c;rw[G5 F]at m;cases m;cases y
 rw[kv c]at m;exact C.u0 j r g m y
def ajl{j:Nat}(a:i≠j){s:Sh}{b:List (l7 s)}(h:l9 H j=.row t s b):l9 ((kW (AV.JR H i) H).set i .gone) j=.row t s b:=by
 have:=cC h aa;unfold l9;rw[getD_eq_getElem?_getD,N9 a,oe,this];rfl
def jI{ro:Lv}{F:Fr}:∀{l:List Nat} {fr:lg} {H:AH} {ρ:List RE} {q:lg×AH},kB ro l fr H=some q->pe G ρ H w->r7 (cx G ρ w) ρ fr F->
  ∃c,u6 ro ρ w c w/\(cx G ρ w).le (cx G c w)/\pe G c q.2 w/\r7 (cx G c w) c q.1 F/\q.2=H.length/\
   (∀(n:AH) a v,(∀i,(a=.own i\/∃o k,a=.sub i o k)->i∈l/\∃t s xs,l9 n i=.row t s xs)->((Rd (cx G ρ w) ρ a v/\∀i,(a=.own i\/∃o k,a=.sub i o k)->l9 H i=l9 n i)\/Pd (cx G ρ w) (a.vw n) v)->(∀i,a≠ .own i/\∀o k,a≠ .sub i o k)\/Pd (cx G c w) (a.vw n) v)/\
   (∀i o,i∉l->H[i]? =some o->((∀t m3,o≠ .box t m3)/\∀l,o≠ .r9 l)->q.2[i]? =some o)/\(∀i,i∉l->c[i]? =ρ[i]?)
 |[],fr,H,ρ,q,h,K,L=>by
  cases h;refine⟨ρ,u6.refl _ _ _,Cx.le.refl _,K,L,rfl,λn a v f h=>?_,λi o _ h _=>h,λ_ _=>rfl⟩;by_cases b:∃i,a=.own i\/∃o k,a=.sub i o k
  .let⟨i,v6⟩:=b;have:=(f i v6).1;simp at this
  left;intro i;exact⟨λe=>b ⟨i,.inl e⟩,λo k e=>b ⟨i,.inr ⟨o,k,e⟩⟩⟩
 |i::l,fr,H,ρ,q,h,K,L=>by
  unfold kB at h;split at h
  .rename_i t s xs v6;split at h
   .rename_i u;simp at u;let⟨x,P,Q,A⟩:=arX K v6 (ro:=ro) u.1 u.2;let⟨c,S,B,T,U,V,h6,E,m1⟩:=jI h P (vM x L);refine⟨c,Q.trans S,A.trans B,T,U,by rw[V];simp[gr],λn a v f hd=>?_,λj o d ho C=>?_,λj d=>?_⟩
    ·-- the element's cell
     by_cases b:∃j,a=.own j\/∃o k,a=.sub j o k
     .let⟨j,d⟩:=b;right;have p:Pd (cx G (ρ.set i .no) w) (a.vw n) v\/(Rd (cx G (ρ.set i .no) w) (ρ.set i .no) a v/\i≠j/\l9 H j=l9 n j):=by
       rcases hd with⟨hd,D⟩|hd
       .have e:=D j d;by_cases m:i=j
        .subst m;left;have I:=x a v hd;have hv:a.vw H=a.vw n:=by rcases d with rfl|⟨o,k,rfl⟩<;>simp[AV.vw,e]
         have R:a.JR H i=a.vw H:=by rcases d with rfl|⟨o,k,rfl⟩<;>simp[AV.JR]
         rw[R,hv]at I;have hp:(a.vw n).plain=true:=by
          rw[<-hv];rcases d with rfl|⟨o,k,rfl⟩<;>simp[AV.vw,v6,AV.plain]
         exact(jF hp).1 I
        right;have I:=x a v hd;have R:a.JR H i=a:=by
         have C:Nat.beq i j=false:=by rw[<-Bool.not_eq_true,Nat.beq_eq];exact m
         rcases d with rfl|⟨o,k,rfl⟩<;>simp[AV.JR,C]
        rw[R]at I;exact⟨I,m,e⟩
       exact .inl (hd.ed A)
      rcases p with p|⟨p,m,e⟩
      ·-- done; ed on
       exact p.ed B
      let⟨hm,Z,r,xx,g⟩:=f j d;have hml:j∈l:=by
       rcases v7.1 hm with e2|hm
       .exact absurd e2.symm m
       exact hm
      have y:=e.trans g;refine(h6 n a v (λj' z=>?_) (.inl ⟨p,λj' z=>?_⟩)).resolve_left λhh=>?_
      .have:j'=j:=by rcases d with rfl|⟨o,k,rfl⟩<;>rcases z with J|⟨_,_,J⟩<;>cases J<;>rfl
       subst this;exact⟨hml,Z,r,xx,g⟩
      .have:j'=j:=by rcases d with rfl|⟨o,k,rfl⟩<;>rcases z with J|⟨_,_,J⟩<;>cases J<;>rfl
       subst this;rw[ajl m y,g]
      rcases d with rfl|⟨o,k,rfl⟩
      .exact(hh j).1 rfl
      exact(hh j).2 _ _ rfl
     left;intro i;exact⟨λe=>b ⟨i,.inl e⟩,λo k e=>b ⟨i,.inr ⟨o,k,e⟩⟩⟩
    .simp at d;refine E j o d.2 ?_ C;rw[N9 (Ne.symm d.1),oe,ho];cases o with
     |box t m3=>exact absurd rfl (C.1 t m3)
     |r9 l=>exact absurd rfl (C.2 l)
     |_=>rfl
    simp at d;rw[m1 j d.2,kv (Ne.symm d.1)]
   cases h
  rename_i hnr;let⟨c,S,B,T,U,V,h6,E,m1⟩:=jI h K L;refine⟨c,S,B,T,U,V,λn a v f hd=>?_,λj o d=>E j o λhm=>d (by simp[hm]),λj d=>m1 j λhm=>d (by simp[hm])⟩;by_cases b:∃j,a=.own j\/∃o k,a=.sub j o k
  .let⟨j,d⟩:=b;let⟨hm,Z,r,xx,g⟩:=f j d;rcases hd with⟨hd,D⟩|hd
   .grind
   exact .inr (hd.ed B)
  left;intro i;exact⟨λe=>b ⟨i,.inl e⟩,λo k e=>b ⟨i,.inr ⟨o,k,e⟩⟩⟩
def rk{fr:lg}{F:Fr}{l:List Nat}{q:lg×AH}(h:kB ro l fr H=some q)(A:pe G ρ H w)(B:r7 (cx G ρ w) ρ fr F):
  ∃b,u6 ro ρ w b w/\(cx G ρ w).le (cx G b w)/\pe G b q.2 w/\r7 (cx G b w) b q.1 F/\q.2=H.length/\
   (∀(c:List AV) (p:List Value),(∀i∈gb c,i∈l)->hY (Rd (cx G ρ w) ρ) c p->hY (Qd (cx G b w)) (Io H c) p)/\(∀i o,i∉l->H[i]? =some o->((∀t C,o≠ .box t C)/\∀l,o≠ .r9 l)->q.2[i]? =some o)/\(∀i,i∉l->b[i]? =ρ[i]?):=by
 let⟨b,D,y,I,J,K,L,r,R⟩:=jI h A B;refine⟨b,D,y,I,J,K,λc p f P=>?_,r,R⟩;induction P with
 |nil=>exact .nil
 |@cons a v c p g _ Q=>
  refine .cons ?_ (Q λi m=>f i (by cases a<;>simp[gb,m]));intro u;by_cases d:∃i,a=.own i\/∃o k,a=.sub i o k
  .let⟨i,m⟩:=d;have n:∃t s x,l9 H i=.row t s x:=by
    cases S:l9 H i with
    |row t s x=>exact⟨t,s,x,rfl⟩
    |_=>rcases m with rfl|⟨o,k,rfl⟩<;>simp[AV.vw,S,AV.plain]at u
   refine(L H a v (λj T=>?_) (.inl ⟨g,λ_ _=>rfl⟩)).resolve_left λU=>?_
   .have:j=i:=by rcases m with rfl|⟨o,k,rfl⟩<;>rcases T with z|⟨_,_,z⟩<;>cases z<;>rfl
    subst this;refine⟨f j ?_,n⟩;rcases m with rfl|⟨o,k,rfl⟩<;>simp[gb]
   grind
  have e:a.vw H=a:=by
   cases a<;>first|rfl|exact absurd ⟨_,.inl rfl⟩ d|exact absurd ⟨_,.inr ⟨_,_,rfl⟩⟩ d
  rw[e]at u⊢;exact((jF u).1 g).ed y
end
def fR(P:Program)n(F:Fr)(w:World)(a:Op)(b:TypeId)(c:Value->World->Prop):=
 Yields P n F w a b c\/(F0 a=true/\∃d,jJ P n F w a b d/\c undef d)
def fY(G:Gl)(c:Lv)(ρ:List RE)(w:World)(r:SR)(F:Fr)(v:Value)(b:World):=
 ∃a,u6 c ρ w a b/\pe G a r.H b/\r7 (cx G a b) a r.fr F/\Rt (cx G a b) a r.v v/\∀p∈r.fc,p
section
variable{P:Program}{T:List (Nat×TI)}{G:Gl}{m3:ic}{n:Nat}{F:Fr}{w:World}{x y:Operand}{ty t:TypeId}{ρ:List RE}{H:AH}{fr:lg}{ro:Lv}
theorem R.box{v:Value}{c:List Value}(d:ev F x=some v)(b:v.cells=c.toArray):aW P n F w (.box t x) ty (.pointer (some ⟨w.heap.size,0,none⟩)) (w.alloc (.cells c.toArray t)):=
 λa _ _ _ _ f=>by simp[execOp,f.ev d,Instr.box,newVar,newRow,b]
theorem R.alloc{d:List Value}(f:((P.info? t).bind (·.zero)).map Value.cells=some d.toArray):aW P n F w (.alloc t) ty (.pointer (some ⟨w.heap.size,0,none⟩)) (w.alloc (.cells d.toArray t)):=λa _ _ _ _ _=>by
 cases c:P.info? t with
 |none=>simp[c]at f
 |some i=>
  cases b:i.zero with
  |none=>simp[c,b]at f
  |some z=>
   have:z.cells=d.toArray:=by simpa[c,b] using f
   simp[execOp,Instr.alloc,newVar,newRow,zeroValue,typeInfo,c,b,this]
variable{cs:List AV}{us:List Value}
def YA{c:Cx}{g:Nat}(f:c.w.heap[g]? =some (.cells us.toArray t (0,0)))(b:hY (Rd c ρ) cs us):OR c ρ (Rl T t cs) (.blk g):=by
 have d:OR c ρ (.box t cs) (.blk g):=⟨g,us,rfl,f,b⟩;unfold Rl;split
 .split
  .split
   .split
    next a=>simp only[r3]at a;exact⟨g,us,rfl,f,mA ap b,ts a.1,ts a.2⟩
    exact d
   exact d
  exact d
 exact d
def xw(d:pe G ρ H w)(k:r7 (cx G ρ w) ρ fr F)(f:hY (Rd (cx G ρ w) ρ) cs us):fY G ro ρ w ⟨one (.ptr H 0),fr,H++[Rl T t cs],[],[]⟩ F (.pointer (some ⟨w.heap.size,0,none⟩)) (w.alloc (.cells us.toArray t)):=by
 have j:=Kp.alloc w (.cells us.toArray t);have a:u7 ρ w (ρ++[.blk w.heap.size]) (w.alloc (.cells us.toArray t)):=u7.qs j λg b=>by cases b;exact tw _
 have c:=a.le d.lo;refine⟨ρ++[.blk w.heap.size],u6.qs d j (λg b=>by cases b;exact tw _),d.qs j (λg b=>by cases b;exact⟨tw _,aa⟩) (YA (M5 w _) (f.imp λ_ _ h=>h.ed c (iF _ _))),k.ed c (iF _ _),⟨w.heap.size,by rw[d.obj.length];simp,rfl⟩,aa⟩
def R.store{g o:Nat}{d:TypeId}{b us:List Value}{v:Value}(k:ev F x=some (.pointer (some ⟨g,o,none⟩)))(l:ev F y=some v)(m:w.heap[g]? =some (.cells (toArray b) d (0,0)))(p:v.cells=us.toArray)(q:∀u∈us,u.oneCell'=true)(f:(P.info? t).map (·.size)=some us.length)(s:o+us<=b):
  jJ P n F w (.store t x y) ty (w.setRow g (b.take o++us++b.drop (o+us)).toArray):=λa _ _ _ _ h=>by
 have j:=run_storeCells_at (P:=P) g o d us 0 b.toArray w m (by simpa using s) q;cases c:P.info? t with
 |none=>simp[c]at f
 |some i=>
  have z:i.size=us:=by simpa[c] using f
  simp[execOp,h.ev k,h.ev l,Instr.storeAt,Instr.sureAddr,storeVar,sizeOf,typeInfo,c,z,p]at j⊢;simp[j]
def AR(hT:bG P G.shp T)(Q:pe G ρ H w)(hf:r7 (cx G ρ w) ρ fr F){a:AV}{b:oh}{va vb:Value}{r:SR}{ti:TI}(ht:bt T t=some ti)(hsz:Nat.beq ti.size b.cells=true)(ha:Rd (cx G ρ w) ρ a va)(hb:eh (cx G ρ w) ρ b vb)(hx:ev F x=some va)(hy:ev F y=some vb)(h:Es ro fr H a b=some r)(hob:∀p∈r.ob,p):
  ∃w',jJ P n F w (.store t x y) ty w'/\fY G ro ρ w r F undef w':=by
 have hsz:=ts hsz;obtain⟨us,hus,U⟩:=eh.cells hb;have hul:=U.length;have h1:∀u∈us,u.oneCell'=true:=λu hu=>by
  obtain⟨i,hi⟩:=List.getElem?_of_mem hu;obtain⟨a',_,h⟩:=U.get i u hi;exact Rd.one h
 have K:(P.info? t).map (·.size)=some us.length:=by rw[(hT _ _ ht).1.1,hsz,hul]
 unfold Es at h;split at h
 ·-- a box
  rename_i id o;split at h
  .rename_i tb cs hH;split at h
   .rename_i B;cases h;simp only[r3]at B;have V:=B.1;have hlen:=G8 B.2;have J:=cC hH aa;obtain⟨r,m1,g,C,rfl,Z,h3⟩:=Q.at_ J;obtain⟨L,f,rfl⟩:=ha;rw[m1]at f;cases f;have hvl:=h3.length;refine⟨_,R.store hx hy Z hus h1 K N,ρ,?_⟩;have d:=Kp.setRow w g (C.take o++us++C.drop (o+us.length)).toArray;have v6:(w.setRow g (C.take o++us++C.drop (o+us.length)).toArray).heap[g]? =some (.cells (C.take o++us++C.drop (o+us.length)).toArray tb (0,0)):=I3 w g _ _ tb _ Z;have D:u7 ρ w ρ (w.setRow g (C.take o++us++C.drop (o+us.length)).toArray):=⟨d.os,d.tape,d.output,d.size,λb hb e=>⟨e,d.block b hb (by
     simp;rintro rfl;exact e ⟨id,_,m1,rfl⟩)⟩⟩
    have I:=D.le Q.lo;have k:=Q.put J m1 rfl d (o':=.box tb (F3 cs o b.cells)) ⟨g,_,rfl,v6,by
     unfold F3;rw[hul];exact(((h3.take o).append U).append (h3.drop _)).imp λ_ _ h=>h.ed I (mz.refl _)⟩
    refine⟨⟨k.2,λ_ _ _ h=>h,λi r' hi A=>⟨A,λL f=>d.block L (Q.u0 i r' L A f).2.1 ?_⟩,λ_ _ h=>h⟩,k.1,hf.ed I (mz.refl _),trivial,aa⟩;simp;rintro rfl;have:=Q.inj i id _ _ L A m1 f rfl;subst this;rw[V]at hi;cases hi
   cases h
  ·-- an array
   rename_i ta s m S hH;split at h
   .rename_i a1 B hcell;split at h
    .rename_i x' hpl hof;cases h;simp only[r3]at B;have V:=B.1;have v2:=ts B.2;have ho:=hob _ (v8 _);have J:=cC hH aa;obtain⟨r,m1,g,C,rfl,Z,h3,h4,h5⟩:=Q.at_ J;obtain⟨L,f,rfl⟩:=ha;rw[m1]at f;cases f;rw[hcell]at U;cases U with|@cons _ u _ _ hu1 hu2=>
     cases hu2;have hvl:C.length=m:=by rw[<-h3.length,cX,h4,v2,O8]
     have hlu:[u].length=1:=rfl;have d:=Kp.setRow w g (C.take o++[u]++C.drop (o+[u].length)).toArray;have v6:(w.setRow g (C.take o++[u]++C.drop (o+[u].length)).toArray).heap[g]? =some (.cells (C.take o++[u]++C.drop (o+[u].length)).toArray ta (0,0)):=I3 w g _ _ ta _ Z;have D:u7 ρ w ρ (w.setRow g (C.take o++[u]++C.drop (o+[u].length)).toArray):=⟨d.os,d.tape,d.output,d.size,λb hb e=>⟨e,d.block b hb (by
      simp;rintro rfl;exact e ⟨id,_,m1,rfl⟩)⟩⟩
     have I:=D.le Q.lo;have hxo:S[o]? =some (S.getD o (c4 s)):=by
      rw[getD_eq_getElem?_getD,r5 N];rfl
     have hsp:r6 (cx G ρ w) (cellsOf s x') [u]:=ba hof (.cons (λhp=>(jF hp).1 hu1) .nil);have hnew:r6 (cx G ρ w) ((S.set o x').flatMap (cellsOf s)) (C.take o++[u]++C.drop (o+[u].length)):=by
      rw[AP hxo];have f1:=cz h3 o;have f2:=c_ h3 (o+1);rw[v2,O8]at f1 f2;exact(f1.append hsp).append f2
     have k:=Q.put J m1 rfl d (o':=.A8 ta s m (S.set o x')) ⟨g,_,rfl,v6,hnew.ed I,by rw[B1];exact h4,v2⟩;refine⟨_,R.store hx hy Z hus h1 K (by rw[hlu];omega),ρ,⟨k.2,λ_ _ _ h=>h,λi r' hi A=>⟨A,λL f=>d.block L (Q.u0 i r' L A f).2.1 ?_⟩,λ_ _ h=>h⟩,k.1,hf.ed I (mz.refl _),trivial,aa⟩;simp;rintro rfl;have:=Q.inj i id _ _ L A m1 f rfl;subst this;rw[V]at hi;cases hi
    cases h
   ·-- all of it
    rename_i B hne;split at h
    .rename_i l ho e;split at h
     .rename_i hln;cases h;simp only[r3]at B;have V:=B.1;have v2:=ts B.2;have ho:=ts ho;subst ho;have hln:=ts hln;have J:=cC hH aa;obtain⟨r,m1,g,C,rfl,Z,h3,h4,h5⟩:=Q.at_ J;obtain⟨L,f,rfl⟩:=ha;rw[m1]at f;cases f;have hpd:=mA e U;have hul2:us.length=m:=by rw[<-hpd.length,cX,hln,v2,O8]
      have hvl:C.length=m:=by rw[<-h3.length,cX,h4,v2,O8]
      have he:C.take 0++us++C.drop (0+us.length)=us:=by
       rw[R1,Q9,M1 N,A1]
      have hst:=R.store (P:=P) (n:=n) (F:=F) (w:=w) (t:=t) (ty:=ty) hx hy Z hus h1 K N;rw[he]at hst;have d:=Kp.setRow w g us.toArray;have v6:(w.setRow g us.toArray).heap[g]? =some (.cells us.toArray ta (0,0)):=I3 w g _ _ ta _ Z;have D:u7 ρ w ρ (w.setRow g us.toArray):=⟨d.os,d.tape,d.output,d.size,λb hb e=>⟨e,d.block b hb (by
       simp;rintro rfl;exact e ⟨id,_,m1,rfl⟩)⟩⟩
      have I:=D.le Q.lo;have k:=Q.put J m1 rfl d (o':=.A8 ta s m l) ⟨g,_,rfl,v6,hpd.ed I,hln,v2⟩;refine⟨_,hst,ρ,⟨k.2,λ_ _ _ h=>h,λi r' hi A=>⟨A,λL f=>d.block L (Q.u0 i r' L A f).2.1 ?_⟩,λ_ _ h=>h⟩,k.1,hf.ed I (mz.refl _),trivial,aa⟩;simp;rintro rfl;have:=Q.inj i id _ _ L A m1 f rfl;subst this;rw[V]at hi;cases hi
     cases h
    cases h
   cases h
  cases h
 ·-- an element of a row
  rename_i id i o;split at h
  .rename_i tb s S hH;split at h
   .rename_i x' q B hof hfz;cases h;simp only[r3,S9,<-Bool.not_eq_true,cu]at B;obtain⟨⟨V,hlen⟩,hnm⟩:=B;have hlen:=G8 hlen;obtain⟨m3,k1,k2,k3,k4,k5,k6,k7,k8⟩:=rk hfz Q hf;obtain⟨g,cap,len,z,Z,h3,rfl⟩:=ha;have J:=cC hH aa;rcases cS Q hH with⟨h0,_⟩|⟨L,cap',c,sp,h4,h5,h6,h7,h8,h9⟩
    .rw[h0]at Z;cases Z
    rw[h4]at Z;cases Z;have E:=fu Q hH;have hxi:S[i]? =some (S.getD i (c4 s)):=qw h3;have hcl:c.length=S.length*s.size:=by rw[<-h6.length,cX]
    have hmul:(i+1)*s.size<=S.length*s.size:=J3 _ h3;rw[L2]at hmul;have hρ1:m3[id]? =some (.row g cap S.length s.size):=by rw[k8 id hnm];exact h4
    have hH1:q.2[id]? =some (.row tb s S):=k7 id _ hnm J aa
    have hel:hY (Rd (cx G ρ w) ρ) (cellsOf s (S.getD i (c4 s))) ((c.drop (i*s.size)).take s.size):=by
     have:=(h6.drop (i*s.size)).take s.size;rw[qE hxi]at this;exact jb this
    have hell:=hel.length;rw[dV]at hell;have hnew:hY (Qd (cx G m3 w)) (F3 (cellsOf s (S.getD i (c4 s))) o (Io H b.cells)) (((c.drop (i*s.size)).take s.size).take o++us++((c.drop (i*s.size)).take s.size).drop (o+us.length)):=by
     have hvl:(Io H b.cells).length=us.length:=by
      rw[<-hul];generalize b.cells=l;induction l with
      |nil=>rfl
      |cons a l ih=>simp[Io,ih]
     unfold F3;rw[hvl];have hq:hY (Qd (cx G m3 w)) (cellsOf s (S.getD i (c4 s))) ((c.drop (i*s.size)).take s.size):=hel.imp λa v h hp=>((jF hp).1 h).ed k2;exact((hq.take o).append (k6 _ _ (λj hj=>hj) U)).append (hq.drop _)
    have hsp:=ba hof hnew;have hcur:c.take (i*s.size+o)++us++c.drop (i*s.size+o+us.length)=c.take (i*s.size)++(((c.drop (i*s.size)).take s.size).take o++us++((c.drop (i*s.size)).take s.size).drop (o+us.length))++c.drop ((i+1)*s.size):=by
     have e1:c.take (i*s.size+o)=c.take (i*s.size)++((c.drop (i*s.size)).take s.size).take o:=by
      rw[T3,I2 N,List.take_add]
     have e2:c.drop (i*s.size+o+us.length)=((c.drop (i*s.size)).take s.size).drop (o+us.length)++c.drop ((i+1)*s.size):=by
      rw[List.drop_take,J1,L2,Nat.one_mul];have:i*s.size+(o+us.length)=i*s.size+o+us.length:=by omega
      rw[this];have e3:c.drop (i*s.size+s.size)=(c.drop (i*s.size+o+us.length)).drop (s.size-(o+us.length)):=by
       rw[J1];congr 1;omega
      rw[e3,E7]
     rw[e1,e2];simp only[J9]
    have d:=Kp.setRow w g ((c++sp).take (i*s.size+o)++us++(c++sp).drop (i*s.size+o+us.length)).toArray;have htk:(c++sp).take (i*s.size+o)++us++(c++sp).drop (i*s.size+o+us.length)=(c.take (i*s.size+o)++us++c.drop (i*s.size+o+us.length))++sp:=by
     rw[N6 N,List.drop_append_of_le_length N];simp only[J9]
    refine⟨_,R.store hx hy h5 hus h1 K (by rw[s8];omega),m3,?_⟩;have v6:(w.setRow g ((c++sp).take (i*s.size+o)++us++(c++sp).drop (i*s.size+o+us.length)).toArray).heap[g]? =some (.cells ((c++sp).take (i*s.size+o)++us++(c++sp).drop (i*s.size+o+us.length)).toArray tb (0,0)):=I3 w g _ _ tb _ h5;generalize hw':w.setRow g ((c++sp).take (i*s.size+o)++us++(c++sp).drop (i*s.size+o+us.length)).toArray=w' at d v6;rw[htk,hcur]at v6;have D:u7 m3 w m3 w':=⟨d.os,d.tape,d.output,d.size,λb hb e=>⟨e,d.block b hb (by
     simp only[D0];rintro rfl;exact e ⟨id,_,hρ1,rfl⟩)⟩⟩
    have I:=D.le k3.lo;have k:=k3.put hH1 hρ1 rfl d (o':=.row tb s (S.set i x')) ⟨E.1,by rw[B1];exact E.2,.inr ⟨g,cap,_,sp,by rw[B1],v6,by
     rw[AP hxi];have f1:r6 (cx G ρ w) ((S.take i).flatMap (cellsOf s)) (c.take (i*s.size)):=cz h6 i;have f2:r6 (cx G ρ w) ((S.drop (i+1)).flatMap (cellsOf s)) (c.drop ((i+1)*s.size)):=c_ h6 (i+1);exact(((f1.ed k2).append hsp).append (f2.ed k2)).ed I,by
     have e4:((c.drop (i*s.size)).take s.size).length=s.size:=by rw[sh,length_drop];omega
     rw[L2,Nat.one_mul];simp only[s8,sh,length_drop]at e4 h7⊢;omega,by rw[B1];exact h8,h9⟩⟩
    refine⟨k1.trans ⟨k.2,λ_ _ _ h=>h,λj r' hj A=>⟨A,λL f=>d.block L (k3.u0 j r' L A f).2.1 ?_⟩,λ_ _ h=>h⟩,k.1,k4.ed I (mz.refl _),trivial,aa⟩;simp only[D0];rintro rfl;have:=k3.inj j id _ _ L A hρ1 f rfl;subst this;rw[V]at hj;cases hj
   cases h
  cases h
 cases h
end
section
variable{P:Program}{T:List (Nat×TI)}{G:Gl}{m3:ic}{n:Nat}{F:Fr}{w:World}{x y:Operand}{ty t:TypeId}{ρ:List RE}{H:AH}{fr:lg}{ro:Lv}
def rX{c m:Cx}{s:Sh}:∀{l:List (Nat×oh)} {pv:List (Nat×Value)} {k:Nat} {d:List (l7 s)},uO s H l k=some d->hY (λp q=>p.1=q.1/\eh c ρ p.2 q.2) l pv->(∀p∈l,∀f,hY (Rd c ρ) p.2.cells f->hY (Qd m) (Io H p.2.cells) f)->
  ∃a:List (List Value),pv.map (λp=>(p.1,p.2.cells.toList))=(range' k a).zip a/\(∀o∈a,o=s.size)/\a=d.length/\r6 m (d.flatMap (cellsOf s)) a.flatten
 |[],_,k,d,h,g,_=>by
  cases h;cases g;exact⟨[],rfl,aa,rfl,.nil⟩
 |(i,v)::r,_,k,d,h,g,z=>by
  cases g with
  |@cons _ q _ Q A B=>
  let⟨S,u⟩:=q;let⟨e,C⟩:=A;simp only at e;subst e;simp[uO]at h;split at h
  .rename_i x l D I J;cases h;have:=ts D;subst this;let⟨f,K,b⟩:=eh.cells C;have j:=ba I (z (i,v) aa f b);let⟨a,U,V,L,n⟩:=rX J B λp g=>z p (by simp[g]);refine⟨f::a,?_,?_,by simp[L],?_⟩
   .grind[List.range'_succ,List.zip_cons_cons]
   .intro o hvs;rcases v7.1 hvs with rfl|hvs
    .rw[<-j.length,dV]
    grind
   rw[G9,flatten_cons];exact j.append n
  cases h
def wy:∀{l:List (Nat×oh)} {p:Nat×oh} {i:Nat},p∈l->i∈gb p.2.cells->i∈Gb l
 |(j,v)::r,p,i,h,a=>by
  simp[Gb];rcases v7.1 h with rfl|h
  .grind
  exact .inr (wy h a)
variable{w':World}{e:TypeId}
def tT(f:pe G ρ H w)(l:r7 (cx G ρ w) ρ fr F)(h:Kp [] w w'){s:Sh}{xs:List (l7 s)}{cells sp:List Value}{cap:Nat}(k:w'.heap[w.heap.size]? =some (.cells (toArray (cells++sp)) e (0,0)))(m:G.shp e=some s)(o:xs*s.bytes<=140737488355328)(p:r6 (cx G ρ w) (xs.flatMap (cellsOf s)) cells)(q:(cells++sp).length=cap*s.size)(u:xs<=cap)(v:cap<=maxLen):
  ∃a,u6 ro ρ w a w'/\pe G a (H++[.row e s xs]) w'/\r7 (cx G a w') a fr F/\Rd (cx G a w') a (.own H) (.slice (some ⟨w.heap.size,0,none⟩) xs cap):=by
 have j:=(S6.1 k).1;have b:u7 ρ w (ρ++[.row w.heap.size cap xs s.size]) w':=u7.qs h λg c=>by cases c;exact tw _
 have d:=b.le f.lo;refine⟨ρ++[.row w.heap.size cap xs s.size],u6.qs f h (λg c=>by cases c;exact tw _),f.qs h (λg c=>by cases c;exact⟨tw _,j⟩) ⟨m,o,.inr ⟨w.heap.size,cap,cells,sp,rfl,k,p.ed d,q,u,v⟩⟩,l.ed d (iF _ _),.inl ⟨w.heap.size,cap,xs,s.size,by rw[f.obj.length];simp,rfl⟩⟩
def SY(f:pe G ρ H w)(l:r7 (cx G ρ w) ρ fr F)(h:Kp [] w w'){s:Sh}(m:G.shp e=some s){k:List (l7 s)}(o:k=[])(a:Option Addr):
  ∃b,u6 ro ρ w b w'/\pe G b (H++[.row e s k]) w'/\r7 (cx G b w') b fr F/\Rd (cx G b w') b (.own H) (.slice a 0 0):=by
 subst o;have c:u7 ρ w (ρ++[.emp]) w':=u7.qs h λg d=>by cases d
 have j:=c.le f.lo;exact⟨ρ++[.emp],u6.qs f h (λg d=>by cases d),f.qs h (λg d=>by cases d) ⟨m,aa,.inl ⟨rfl,rfl⟩⟩,l.ed j (iF _ _),.inr ⟨by rw[f.obj.length];simp,a,rfl⟩⟩
variable{b:Nat}{z:List Value}
def GL{s:Nat}(h:(P.info? e).map (λi=>(i.zero.map Value.cells,i.size,i.bytes))=some (some z.toArray,s,b)):((P.info? e).bind (·.zero)).map Value.cells=some z.toArray:=by
 cases a:P.info? e with
 |none=>simp[a]at h
 |some i=>simp[a]at h⊢;exact h.1
def Bh{s:Nat}(r:P.underlying t=some (.slice e))(hi':(P.info? e).map (λi=>(i.zero.map Value.cells,i.size,i.bytes))=some (some z.toArray,s,b))(hz:z=s)(hs0:0<s)
  {v:Value}{m k cy:Nat}{c d:List Value}{A:Option Addr}{lo:Nat}(hlo:lo<=w.heap.size)(v6:(m=0/\c=[]/\∃a,v=.slice a 0 0)\/w.ownsRow lo e s v m c)(U:d=k*s)(V:∀u∈d,u.oneCell'=true)(B:k=0\/∃ad,A=some ad/\j0 w ad d)
  (l:(m+k)*b<=140737488355328)(I:m+k<=9223372036854775807):
  ∃q w',(Builtin.append_ #[t,t] ty #[v,.slice A k cy]).run P w=.ok q w'/\((m+k=0/\∃a,q=.slice a 0 0)\/w'.ownsRow lo e s q (m+k) (c++d))/\Kp (ob v) w w'/\(∀g∈ob q,g∈ob v\/(g=w.heap.size/\w.heap.size<w'.heap.size)):=by
 obtain⟨i,T,x,E,hzc,m1,J⟩:=tQ hi';have hzs:T.cells.size=s:=by rw[hzc];simpa using hz
 have y:A=none->k=0:=by
  intro hA;rcases B with h|⟨ad',h,hc⟩
  .exact h
  rw[hA]at h;cases h
 have R:∀ad,A=some ad->∀j u,d[j]? =some u->w.cell? (ad.add j)=some u:=by
  intro ad hA j u hu;rcases B with h|⟨ad',h,hc⟩
  .subst h;have:d=[]:=A6 N;subst this;simp at hu
  rw[hA]at h;cases h;exact hc j u hu
 have C:∀(v:Value) (n:Nat) (c:List Value),w.ownsRow lo e s v n c->n+k<=9223372036854775807->(n+k)*b<=140737488355328->
   ∃q w',(Builtin.append_ #[t,t] ty #[v,.slice A k cy]).run P w=.ok q w'/\w'.ownsRow lo e s q (n+k) (c++d)/\w.grownBy w' v.ownBlock/\
    (q.ownBlock=v.ownBlock\/q.ownBlock=some w.heap.size)/\(q.ownBlock=some w.heap.size->w.heap.size<w'.heap.size):=by
  intro v n c f I l;rcases A with _|ad
  .have L:=y rfl;subst L;have Z:d=[]:=A6 N;subst Z;refine⟨v,w,?_,by simpa using f,⟨rfl,rfl,rfl,tw _,λ_ _ _=>rfl⟩,.inl rfl,λh=>?_⟩
   .rcases f.2 with⟨rfl,F⟩|⟨g,G,H,rfl,_,_,hnc,_⟩
    .simp[Builtin.append_,C0 r,sizeOf,typeInfo,x,Builtin.lenOf,Builtin.firstCells]
    simp[Builtin.append_,C0 r,sizeOf,typeInfo,x,Builtin.lenOf,Builtin.firstCells,hnc,storeCells]
   exact absurd (f.lt _ h).2 N
  obtain⟨q,w',p,Q,D,_,h5⟩:=run_append_own_at (P:=P) w lo t ty e i T s b r x E m1 J hzs N v n c f ad k cy d U (R ad rfl) V (by simpa[maxLen] using I) l hlo;exact⟨q,w',p,Q,D,h5,λh=>(Q.lt _ h).2⟩
 by_cases K:∃a,v=.slice a 0 0
 .obtain⟨a0,rfl⟩:=K;have hm0:m=0/\c=[]:=by
   rcases v6 with⟨h1,Q,_⟩|h1
   .exact⟨h1,Q⟩
   have hm:m=0:=by
    rcases h1.2 with⟨_,F⟩|⟨g,G,H,hv,_,_,hn,_⟩
    .exact F
    injection hv with _ e1 _;exact e1.symm
   refine⟨hm,A6 ?_⟩;rw[h1.1,hm,O7]
  obtain⟨rfl,rfl⟩:=hm0;by_cases L:k=0
  .subst L;have Z:d=[]:=A6 N;subst Z;refine⟨.slice a0 0 0,w,?_,.inl ⟨rfl,a0,rfl⟩,(Kp.refl w).sub aa,λg S=>.inl S⟩;cases a0<;>cases A<;>simp[Builtin.append_,C0 r,sizeOf,typeInfo,x,Builtin.lenOf,Builtin.firstCells,storeCells,loadCells,loadCellsFrom]
  obtain⟨ad,rfl⟩:∃ad,A=some ad:=by
   cases A with
   |none=>exact absurd (y rfl) L
   |some ad=>exact⟨ad,rfl⟩
  simp at I l;obtain⟨q,w',p,Q,D,h5,h6⟩:=C (.slice none 0 0) 0 [] (World.ownsRow_nil _ _ _ _) (by simpa using I) (by simpa using l);have heq:(Builtin.append_ #[t,t] ty #[.slice a0 0 0,.slice (some ad) k cy]).run P w=(Builtin.append_ #[t,t] ty #[.slice none 0 0,.slice (some ad) k cy]).run P w:=by
   cases a0 with
   |none=>rfl
   |some b0=>
    rw[run_append_nil (P:=P) w t ty e i T r x E ad k cy d (by rw[U,m1]) (R ad rfl) N N (by rw[J];omega)];rw[run_append_grow (P:=P) w t ty e i T r x E b0 0 0 [] aa aa ad k cy d (by rw[U,m1]) (R ad rfl) N N (by
     rw[J];exact growslice_fits N (by simpa using l))]
    simp
  refine⟨q,w',heq.trans p,.inr (by simpa using Q),⟨D.os,D.tape,D.output,D.size,λb hb _=>D.block b hb (by simp[Value.ownBlock])⟩,λg S=>?_⟩;have o:=Ad S;rcases h5 with h5|h5
  .rw[h5]at o;cases o
  exact .inr ⟨by rw[h5]at o;exact(D4 o).symm,h6 h5⟩
 have f:w.ownsRow lo e s v m c:=by
  rcases v6 with⟨_,_,h⟩|h1
  .exact absurd h K
  exact h1
 obtain⟨q,w',p,Q,D,h5,h6⟩:=C v m c f I l;have m3:∀g,v.ownBlock=some g->g∈ob v:=by
  intro g S;rcases f.2 with⟨rfl,F⟩|⟨g',G,H,rfl,_,_,hn,_⟩
  .cases S
  cases S;simp only[ob];rw[X]
  .simp
  intro F;subst F;exact K ⟨_,by rw[show m=0 by omega]⟩
 refine⟨q,w',p,.inr Q,⟨D.os,D.tape,D.output,D.size,λb hb hn=>D.block b hb λhe=>hn (m3 b he.symm)⟩,λg S=>?_⟩;have o:=Ad S;rcases h5 with h5|h5
 .rw[h5]at o;exact .inl (m3 g o)
 exact .inr ⟨by rw[h5]at o;exact(D4 o).symm,h6 h5⟩
end
section
variable{G:Gl}{ρ:List RE}{H:AH}{w w':World}
def mM(u:pe G ρ H w){id:Nat}{e e':TypeId}{s s':Sh}{xs:List (l7 s)}{zs:List (l7 s')}(hH:l9 H id=.row e s xs){ro:Lv}(v6:ro.mv id=true/\ro.wr id=true){S:List Nat}(D:Kp S w w')(hS:∀g∈S,∃r,ρ[id]? =some r/\r.g?=some g){r':RE}(E:∀g,r'.g?=some g->(∃r,ρ[id]? =some r/\r.g?=some g)\/(w.heap.size<=g/\g<w'.heap.size))
  (ho:(cx G ρ w).le (cx G (ρ.set id r') w')->OR (cx G (ρ.set id r') w') (ρ.set id r') (.row e' s' zs) r'):
  u6 ro ρ w (ρ.set id r') w'/\pe G (ρ.set id r') ((kW (AV.kill id) H).set id (.row e' s' zs)) w'/\(∀fr F,r7 (cx G ρ w) ρ fr F->r7 (cx G (ρ.set id r') w') (ρ.set id r') (kS (AV.kill id) fr) F):=by
 let⟨m3,hil,hiH⟩:=rJ u hH;have hlv:∀b,b<w.heap.size->¬live ρ b->¬live (ρ.set id r') b:=λb B m1 h=>(CS h).elim m1 λp=>by
  rcases E b p with⟨r,h3,I⟩|h3
  .exact m1 ⟨id,r,h3,I⟩
  omega
 have J:∀b,b<w.heap.size->(∀r,ρ[id]? =some r->r.g?≠some b)->w'.heap[b]? =w.heap[b]?:=λb B hn=>D.block b B λhm=>by
  let⟨r,m,p⟩:=hS b hm;exact hn r m p
 have K:u7 ρ w (ρ.set id r') w':=⟨D.os,D.tape,D.output,D.size,λb B m1=>⟨hlv b B m1,J b B λr m p=>m1 ⟨id,r,m,p⟩⟩⟩;have d:=K.le u.lo;have t:∀j r,id≠j->ρ[j]? =some r->(ρ.set id r')[j]? =some r:=λj r c h=>by rw[kv c];exact h
 have y:∀q v,fw ρ q v->fw (ρ.set id r') q v:=λq v ⟨g,m,p⟩=>⟨g,t _ _ (λe=>m3 g (e▸m)) m,p⟩;have R:∀a v,Rd (cx G ρ w) ρ a v->Rd (cx G (ρ.set id r') w') (ρ.set id r') (a.kill id) v:=by
  intro a v h;cases a with
  |own j=>
   simp[AV.kill];cases B:Nat.beq id j
   .have c:id≠j:=by rintro rfl;simp at B
    rcases h with⟨g,C,len,z,h,e⟩|⟨h,e⟩
    .exact .inl ⟨g,C,len,z,t _ _ c h,e⟩
    exact .inr ⟨t _ _ c h,e⟩
   exact Rd.one h
  |sub j o k=>
   simp[AV.kill];cases B:Nat.beq id j
   .have c:id≠j:=by rintro rfl;simp at B
    rcases h with⟨g,C,len,z,h,e⟩|⟨h,e⟩
    .exact .inl ⟨g,C,len,z,t _ _ c h,e⟩
    exact .inr ⟨t _ _ c h,e⟩
   exact Rd.one h
  |y8 j k o=>
   simp[AV.kill];cases B:Nat.beq id j
   .have c:id≠j:=by rintro rfl;simp at B
    let⟨g,C,len,z,h,e⟩:=h;exact⟨g,C,len,z,t _ _ c h,e⟩
   exact Rd.one h
  |ptr j o=>exact y _ _ h
  |mq j=>
   let⟨g,m,e⟩:=h;exact⟨g,t _ _ (λe=>m3 g (e▸m)) m,e⟩
  |fn f b cs=>
   let⟨bs,us,m,p,e⟩:=h;exact⟨bs,us,m.imp λ_ _ h=>y _ _ h,p.imp λ_ _ h=>y _ _ h,e⟩
  |fe s' x o=>
   let⟨A,P,m,p,h3,e⟩:=h;exact⟨A,P,(d.S _ m).1,p.dc (d.S _ m).2,h3.ed d,e⟩
  |np=>exact h
  |nf=>exact h
  |yl l=>exact h
  |xx k cs=>
   let⟨us,m,p⟩:=h;exact⟨us,m.imp λ_ _ h=>y _ _ h,p.le d⟩
  |dead=>exact h
  |int n=>exact Pd.ed h d
  |u8 b=>exact Pd.ed h d
  |u64 n=>exact Pd.ed h d
  |bool e=>exact Pd.ed h d
  |str s=>exact Pd.ed h d
  |em b=>exact Pd.ed h d
  |li nw xs=>exact Pd.ed h d
  |fz s xs=>exact Pd.ed h d
 have L:∀j r g,id≠j->ρ[j]? =some r->r.g?=some g->w'.heap[g]? =w.heap[g]?:=λj r g c m p=>J g (u.u0 j r g m p).2.1 λZ h3 I=>c (u.inj _ _ _ _ g h3 m I p);have Q:∀a (r:RE) g,(ρ.set id r')[a]? =some r->r.g?=some g->(id≠a/\ρ[a]? =some r)\/(id=a/\((∃r,ρ[id]? =some r/\r.g?=some g)\/(w.heap.size<=g/\g<w'.heap.size))):=λa r g m p=>by
  by_cases T:id=a
  .subst T;rw[G5 hil]at m;cases m;exact .inr ⟨rfl,E g p⟩
  rw[kv T]at m;exact .inl ⟨T,m⟩
 refine⟨⟨K,λj r U h=>t j r (by rintro rfl;rw[v6.1]at U;cases U) h,λj r U h=>⟨t j r (by rintro rfl;rw[v6.2]at U;cases U) h,λg hg=>L j r g (by rintro rfl;rw[v6.2]at U;cases U) h hg⟩,λj g h=>t j _ (λe=>m3 g (e▸h)) h⟩,⟨dw (by simp[gr,u.obj.length]) λj o r V hr=>?_,λa b r1 Z g m p h3 I=>?_,λj r g m p=>?_,λb B=>y7 (u.z b B) D.size,zc u.b0 D.size,u.tb.ed d⟩,λfr F h=>vM R h⟩
 .by_cases c:id=j
  .grind
  rw[N9 c,oe]at V;rw[kv c]at hr;rw[I0]at V;obtain⟨o',ho2,rfl⟩:=V;let⟨Z,i,hor⟩:=u.at_ ho2;rw[hr]at i;cases i;exact hor.map d R λg hg=>L j r g c hr hg
 .rcases Q a r1 g m h3 with⟨k1,k2⟩|⟨k1,k2⟩<;>rcases Q b Z g p I with⟨k3,k4⟩|⟨k3,k4⟩
  .exact u.inj a b r1 Z g k2 k4 h3 I
  .rcases k4 with⟨r,k5,k6⟩|k4
   .exact absurd (u.inj _ _ _ _ g k5 k2 k6 h3) k1
   have:=(u.u0 a r1 g k2 h3).2.1;omega
  .rcases k2 with⟨r,k5,k6⟩|k2
   .exact absurd (u.inj _ _ _ _ g k5 k4 k6 I) k3
   have:=(u.u0 b Z g k4 I).2.1;omega
  omega
 rcases Q j r g m p with⟨k1,k2⟩|⟨k1,k2⟩
 .have:=u.u0 j r g k2 p;exact⟨this.1,y7 this.2.1 D.size,this.2.2⟩
 rcases k2 with⟨r,k5,k6⟩|k2
 .have:=u.u0 _ r g k5 k6;exact⟨this.1,y7 this.2.1 D.size,this.2.2⟩
 exact⟨zc u.b0 k2.1,k2.2,λhz=>by have:=u.z g hz;omega⟩
end
section
variable{P:Program}{T:List (Nat×TI)}{G:Gl}{m3:ic}{n:Nat}{F:Fr}{w:World}{x y:Operand}{ty t:TypeId}{ρ:List RE}{H:AH}{fr:lg}{ro:Lv}
variable{b:AV}
def po(z:pe G ρ H w){vb:Value}{s:Sh}{g:List (l7 s)}(h:(b.vw H).iu s=some g)(p:Rd (cx G ρ w) ρ b vb):∃A k d,vb=.slice A g k/\d.length=g*s.size/\(∀u∈d,u.oneCell'=true)/\(g.length=0\/∃j,A=some j/\j0 w j d)/\r6 (cx G ρ w) (g.flatMap (cellsOf s)) d:=by
 have B:∀v,b.vw H=.fz s v->∃A k d,vb=.slice A v k/\d.length=v*s.size/\(∀u∈d,u.oneCell'=true)/\(v.length=0\/∃j,A=some j/\j0 w j d)/\r6 (cx G ρ w) (v.flatMap (cellsOf s)) d:=λv l=>by
  obtain⟨a,k,f,rfl,I,J,m,q⟩:=(IX z l p).ex;refine⟨a,k,f,rfl,by rw[<-m.length,cX],m.ZH,?_,m⟩;rcases q with q|⟨A,C,_,D⟩
  .grind
  exact .inr ⟨A,C,D⟩
 cases l:b.vw H with
 |fz K L=>
  rw[l]at h;simp[AV.iu]at h;grind
 |em c=>
  rw[l]at h;cases h;have o:b=.em c:=by
   (simp_all[AV.vw,split];grind)
  subst o;cases p with|@em _ a _=>
  exact⟨a,0,[],rfl,aa,aa,.inl rfl,.nil⟩
 |_=>rw[l]at h;simp[AV.iu]at h
variable{m:Nat}{e:TypeId}
def qY{lo:Nat}{s:Nat}{v:Value}{c:List Value}(h:w.ownsRow lo e s v m c):(v=.slice none 0 0/\m=0)\/∃g a f,v=.slice (some ⟨g,0,none⟩) m a/\w.heap[g]? =some (.cells (toArray (c++f)) e (0,0))/\(c++f).length=a*s/\m<=a/\a<=maxLen:=by
 rcases h.2 with o|⟨g,a,d,j,_,p,k,l,q,u⟩
 .grind
 refine .inr ⟨g,a,d.toList.drop (m*s),j,?_,?_,k,l⟩
 ·(simp_all;grind)
 grind
variable{va:Value}{r:SR}{a:AV}
def ox(hR:pe G ρ H w)(hf:r7 (cx G ρ w) ρ fr F){op:Op}{s:Sh}{A:List (l7 s)}{m3:List Value}(u:G.shp e=some s)(s4:r6 (cx G ρ w) (A.flatMap (cellsOf s)) m3)
  (run:∀(m:Nat) (f:List Value),((m=0/\f=[]/\∃a,va=.slice a 0 0)\/w.ownsRow 0 e s.size va m f)->(m+A)*s.bytes<=140737488355328->
     ∃v6 d,aW P n F w op ty v6 d/\((m+A=0/\∃a,v6=.slice a 0 0)\/d.ownsRow 0 e s.size v6 (m+A) (f++m3))/\Kp (ob va) w d/\(∀g∈ob v6,g∈ob va\/(g=w.heap.size/\w.heap.size<d.heap.size)))
  (h:qV ro fr H e s A a=some r)(T:∀p∈r.ob,p)(ha:Rd (cx G ρ w) ρ a va):
  ∃v d,aW P n F w op ty v d/\fY G ro ρ w r F v d:=by
 unfold qV at h
 have k:∀(id:Nat) (L Q:List (l7 s)) (m:Nat),l9 H id=.row e s L->(ro.mv id=true/\ro.wr id=true)->m=Q->(∀(v6:Value) (d:World),d.heap.size=d.heap.size)->(m+A)*s.bytes<=140737488355328->
   (va=.slice (some ⟨0,0,none⟩) 0 0->True)->(∃f,((m=0/\f=[]/\∃a,va=.slice a 0 0)\/w.ownsRow 0 e s.size va m f)/\r6 (cx G ρ w) (Q.flatMap (cellsOf s)) f)->(∀g∈ob va,∃r,ρ[id]? =some r/\r.g?=some g)->
   ∃v d,aW P n F w op ty v d/\fY G ro ρ w ⟨one (.own id),kS (AV.kill id) fr,(kW (AV.kill id) H).set id (.row e s (Q++A)),[],[]⟩ F v d:=by
  intro id L Q m m1 hro hm _ c _ ⟨f,hrow,hpo⟩ y;subst hm;obtain⟨_,R,_⟩:=rJ hR m1;obtain⟨v6,d,h1,h2,h3,V⟩:=run Q f hrow c;have z:(Q++A).length=Q+A:=s8;have done:∀(Z:RE),(∀g,Z.g?=some g->(∃r,ρ[id]? =some r/\r.g?=some g)\/(w.heap.size<=g/\g<d.heap.size))->((cx G ρ w).le (cx G (ρ.set id Z) d)->OR (cx G (ρ.set id Z) d) (ρ.set id Z) (.row e s (Q++A)) Z)->Rd (cx G (ρ.set id Z) d) (ρ.set id Z) (.own id) v6->∃v d,aW P n F w op ty v d/\fY G ro ρ w ⟨one (.own id),kS (AV.kill id) fr,(kW (AV.kill id) H).set id (.row e s (Q++A)),[],[]⟩ F v d:=λZ D I J=>by
   obtain⟨K,b,i⟩:=mM hR m1 hro h3 y D I;exact⟨v6,d,h1,ρ.set id Z,K,b,i fr F hf,J,aa⟩
  rcases h2 with⟨t,a',rfl⟩|h2
  .refine done .emp (by rintro g ⟨⟩) (λ_=>⟨u,by rw[z];exact c,.inl ⟨rfl,A6 N⟩⟩) (.inr ⟨G5 R,a',rfl⟩)
  rcases qY h2 with⟨rfl,t⟩|⟨g,q,sp,rfl,D,I,J,K⟩
  .refine done .emp (by rintro g ⟨⟩) (λ_=>⟨u,by rw[z];exact c,.inl ⟨rfl,A6 N⟩⟩) (.inr ⟨G5 R,none,rfl⟩)
  by_cases S:q=0
  .subst S;have x:Q.length+A.length=0:=by omega
   exact done .emp (by rintro g ⟨⟩) (λ_=>⟨u,by rw[z];exact c,.inl ⟨rfl,A6 N⟩⟩) (.inr ⟨G5 R,some ⟨g,0,none⟩,by rw[x]⟩)
  refine done (.row g q (Q++A).length s.size) (λg' j=>?_) (λhle=>⟨u,by rw[z];exact c,.inr ⟨g,q,f++m3,sp,rfl,D,?_,I,by rw[z];exact J,K⟩⟩) (.inl ⟨g,q,(Q++A).length,s.size,G5 R,by rw[z]⟩)
  .cases j;rcases V g (by simp[ob,S])with E|⟨E,h6⟩
   .exact .inl (y g E)
   exact .inr ⟨N,N⟩
  rw[Q8];exact(hpo.append s4).ed hle
 split at h
 ·-- no room
  cases h;cases ha with|@em _ a0 _=>
  have c:=T _ (v8 _);obtain⟨v6,d,h1,h2,h3,V⟩:=run 0 [] (.inl ⟨rfl,rfl,a0,rfl⟩) (by simpa using c);have hk:Kp [] w d:=h3.sub λg hg=>by cases a0<;>simp[ob]at hg
  simp only[A3,Q9]at h2;have fin:∀(a':Option Addr),A=[]->v6=.slice a' 0 0->fY G ro ρ w ⟨one (.own H.length),fr,H++[.row e s A],[A.length*s.bytes<=140737488355328],[]⟩ F v6 d:=λa' hy0 hv=>by
   obtain⟨l,D,I,J,K⟩:=SY (ro:=ro) hR hf hk u hy0 a';subst hv;exact⟨l,D,I,J,K,aa⟩
  refine⟨v6,d,h1,?_⟩;rcases h2 with⟨t,a',hv⟩|h2
  .exact fin a' (A6 t) hv
  rcases qY h2 with⟨hv,t⟩|⟨g,q,sp,rfl,D,I,J,K⟩
  .exact fin none (A6 t) hv
  by_cases S:q=0
  .subst S;have x:A.length=0:=by omega
   exact fin _ (A6 x) (by rw[x])
  rcases V g (by simp[ob,S])with E|⟨E,h6⟩
  .cases a0<;>simp[ob]at E
  subst E;obtain⟨l,j1,j2,j3,j4⟩:=tT (ro:=ro) hR hf hk D u c s4 I J K;exact⟨l,j1,j2,j3,j4,aa⟩
 ·-- a row
  rename_i id;split at h
  .rename_i e' s' L m1;split at h
   .rename_i hss;subst hss;split at h
    .rename_i B;cases h;simp only[r3]at B;have he:=ts B.2;subst he;have c:=T _ (v8 _);have U:=k id L L L.length m1 B.1 rfl (λ_ _=>rfl) c (λ_=>trivial);rcases cS hR m1 with⟨t,rfl⟩|⟨g,q,o,sp,h2,h3,V,E,h6,h7⟩
     .rcases ha with⟨_,_,_,_,C,_⟩|⟨_,a0,rfl⟩
      .rw[t]at C;cases C
      obtain⟨v,d,D,l,I,J,K,b,i⟩:=U ⟨[],.inl ⟨rfl,rfl,a0,rfl⟩,.nil⟩ (λg hg=>by cases a0<;>simp[ob]at hg);exact⟨v,d,D,l,I,J,K,b,i⟩
     rcases ha with⟨_,_,_,_,C,rfl⟩|⟨C,_⟩
     .rw[h2]at C;cases C;obtain⟨v,d,D,l,I,J,K,b,i⟩:=U ⟨o,.inr ⟨by rw[<-V.length,cX],.inr ⟨g,q,_,rfl,H4 _,h3,h6,h7,by simpa using E,by
       have hcl:o.length=L.length*s'.size:=by rw[<-V.length,cX]
       rw[<-hcl];simp⟩⟩,V⟩ (λg' j=>by
        simp only[ob]at j;split at j
        .simp at j
        simp at j;subst j;exact⟨_,h2,rfl⟩)
      exact⟨v,d,D,l,I,J,K,b,i⟩
     rw[h2]at C;cases C
    cases h
   cases h
  cases h
 ·-- a row's beginning
  rename_i id len;split at h
  .rename_i e' s' L m1;split at h
   .rename_i hss;subst hss;split at h
    .rename_i B;cases h;simp only[r3]at B;have he:=ts B.2;subst he;have c:=T _ (v8 _);rcases cS hR m1 with⟨t,rfl⟩|⟨g,q,o,sp,h2,h3,V,E,h6,h7⟩
     .rcases ha with⟨_,_,_,_,C,_⟩|⟨_,_,rfl,a0,rfl⟩
      .rw[t]at C;cases C
      obtain⟨v,d,D,l,I,J,K,b,i⟩:=k id [] ([].take 0) 0 m1 B.1 rfl (λ_ _=>rfl) c (λ_=>trivial) ⟨[],.inl ⟨rfl,rfl,a0,rfl⟩,.nil⟩ (λg hg=>by cases a0<;>simp[ob]at hg);exact⟨v,d,D,l,I,J,K,b,i⟩
     rcases ha with⟨_,_,_,_,C,h9,rfl⟩|⟨C,_⟩
     .rw[h2]at C;cases C;have hlt:(L.take len).length=len:=by simp;omega
      have hcl:o.length=L.length*s'.size:=by rw[<-V.length,cX]
      have hmul:len*s'.size<=L.length*s'.size:=J3 _ N;obtain⟨v,d,D,l,I,J,K,b,i⟩:=k id L (L.take len) len m1 B.1 hlt.symm (λ_ _=>rfl) c (λ_=>trivial) ⟨o.take (len*s'.size),.inr ⟨by rw[sh];omega,.inr ⟨g,q,_,by rw[O7,R2],H4 _,h3,N,h7,by simpa using E,by
       rw[List.toList_toArray,N6 N]⟩⟩,cz V len⟩ (λg' j=>by
        simp only[ob]at j;split at j
        .simp at j
        simp at j;subst j;exact⟨_,h2,rfl⟩)
      exact⟨v,d,D,l,I,J,K,b,i⟩
     rw[h2]at C;cases C
    cases h
   cases h
  cases h
 cases h
def qT(hT:bG P G.shp T)(I:pe G ρ H w)(L:r7 (cx G ρ w) ρ fr F){vb:Value}(h:qk T ro fr H t a b=some r)(o:∀p∈r.ob,p)(j:Rd (cx G ρ w) ρ a va)(v6:Rd (cx G ρ w) ρ b vb)(Q:ev F x=some va)(S:ev F y=some vb):
  ∃v l,aW P n F w (.call {callee:=.builtin .append,args:=#[x,y],argTypes:=#[t,t]}) ty v l/\fY G ro ρ w r F v l:=by
 unfold qk at h;split at h
 .rename_i e s sz z q;let⟨U,V⟩:=(hT _ _ q).2;let⟨d,⟨E,m1,u⟩,_⟩:=V s rfl;have B:E=s.size:=by
   have:=(lJ (c:=cx G ρ w) (ρ:=ρ) u).length;grind[dV]
  split at h
  .rename_i J C;obtain⟨A,k,R,rfl,Z,i,m3,s4⟩:=po I C v6;refine ox (ty:=ty) I L d s4 (λm K f g=>?_) h o j;have D:m+J<=9223372036854775807:=by
    have:=S8 (m+J) (jn s);omega
   let⟨v',l,h1,h2⟩:=Bh (P:=P) (w:=w) (ty:=ty) (cy:=k) U m1 B (size_pos s) (lo:=0) (H4 _) f Z i m3 g D;exact⟨v',l,λa _ _ _ _ j=>by simp[execOp,resolve,invoke,builtin,j.ev Q,j.ev S,h1],h2⟩
  cases h
 cases h
variable{t':TypeId}
def uI{z:List Value}(R:P.underlying t=some (.slice e))(B:P.underlying t'=some .string)(H:(P.info? e).map (λi=>(i.zero.map Value.cells,i.size,i.bytes))=some (some z.toArray,1,1))(hz:(P.info? e).bind (·.zero)=some (.int .u8 0))
  {v:Value}{d:List Value}(S:(m=0/\d=[]/\∃a,v=.slice a 0 0)\/w.ownsRow 0 e 1 v m d)(s:ByteArray)(U:m+s.size<=140737488355328):
  ∃A C,(Builtin.append_ #[t,t'] ty #[v,.string s]).run P w=.ok A C/\((m+s.size=0/\∃a,A=.slice a 0 0)\/C.ownsRow 0 e 1 A (m+s.size) (d++Lib.strCells s))/\Kp (ob v) w C/\(∀g∈ob A,g∈ob v\/(g=w.heap.size/\w.heap.size<C.heap.size)):=by
 let⟨i,zv,V,hzv,hzc,K,L⟩:=tQ H;have p:i.zero=some (.int .u8 0):=by
  rw[V]at hz;exact hz
 have x:m+s.size<=maxLen:=by simp[maxLen];omega
 have I:∀(A:Value) (C:World) (k c:Nat),A=.slice (some ⟨w.heap.size,0,none⟩) k c->C.ownsRow 0 e 1 A k (d++Lib.strCells s)->∀g∈ob A,g∈ob v\/(g=w.heap.size/\w.heap.size<C.heap.size):=λA C k c m3 f g v6=>by
  have h1:=Ad v6;have h2:=(f.lt _ h1).2;subst m3;have h1:w.heap.size=g:=D4 h1;exact .inr ⟨h1.symm,N⟩
 by_cases J:∃a,v=.slice a 0 0
 .obtain⟨a0,rfl⟩:=J;have T:m=0/\d=[]:=by
   rcases S with⟨h1,h2,_⟩|h1
   .exact⟨h1,h2⟩
   have hm:m=0:=by
    rcases h1.2 with⟨_,Z⟩|⟨g,l,D,m3,_,_,G,_⟩
    .exact Z
    injection m3 with _ E _;exact E.symm
   refine⟨hm,A6 ?_⟩;rw[h1.1,hm,O7]
  obtain⟨rfl,rfl⟩:=T;have hob0:∀g,g∉ob (.slice a0 0 0):=λg v6=>by cases a0<;>simp[ob]at v6
  by_cases Z:s.size=0
  .refine⟨.slice a0 0 0,w,?_,.inl ⟨N,a0,rfl⟩,(Kp.refl w).sub aa,λg v6=>.inl v6⟩;have hf:=Lib.run_firstCells_string (P:=P) w 1 s;have G:=A6 (by rw[Lib.strCells_length];exact Z);rw[Z,G]at hf;cases a0<;>simp[Builtin.append_,C0 R,C0 B,sizeOf,typeInfo,V,K,Builtin.lenOf,Z,hf,storeCells]
  let⟨A,C,r,f,o,_⟩:=Lib.run_append_own_string (P:=P) w 0 t t' ty e i R B V p K L (.slice none 0 0) 0 [] (World.ownsRow_nil _ _ _ _) s x U (H4 _);have q:=run_append_nil_string (P:=P) w t t' ty e i (.int .u8 0) R B V p s N N (by rw[L];omega);rw[r]at q;injection q with E e2;have heq:(Builtin.append_ #[t,t'] ty #[.slice a0 0 0,.string s]).run P w=.ok A C:=by
   cases a0 with
   |none=>exact r
   |some b0=>
    rw[Lib.run_append_grow_string (P:=P) w t t' ty e i (.int .u8 0) R B V p b0 0 0 [] aa aa s N N (by rw[L];exact growslice_fits N N),E,e2];have e3:(s.data.map λb=>Value.int .u8 b.toNat)=(Lib.strCells s).toArray:=by
     apply J4;simp[Lib.strCells]
    simp[e3]
  exact⟨A,C,heq,.inr (by simpa using f),⟨o.os,o.tape,o.output,o.size,λb hb _=>o.block b hb (by simp[Value.ownBlock])⟩,λg v6=>I A C _ _ E (by simpa using f) g v6⟩
 have f:w.ownsRow 0 e 1 v m d:=by
  rcases S with⟨_,_,h⟩|h1
  .exact absurd h J
  exact h1
 let⟨A,C,r,Q,o,_⟩:=Lib.run_append_own_string (P:=P) w 0 t t' ty e i R B V p K L v m d f s x U (H4 _);obtain⟨g,l,D,rfl,hc0,v6,y,F,hl⟩:∃g l D,v=.slice (some ⟨g,0,none⟩) m l/\l≠0/\w.heap[g]? =some (.cells D e (0,0))/\m<=l/\D.size=l/\(∀j u,d[j]? =some u->w.cell? ((⟨g,0,none⟩:Addr).add j)=some u):=by
  rcases f.2 with⟨h,_⟩|⟨g,l,D,rfl,_,v6,y,_,F,_⟩
  .exact absurd ⟨none,h⟩ J
  refine⟨g,l,D,rfl,λZ=>J ⟨some ⟨g,0,none⟩,?_⟩,v6,y,by simpa using F,f.cells (g:=g) rfl⟩;subst Z;rw[show m=0 by omega]
 have m1:ob (.slice (some ⟨g,0,none⟩) m l)=[g]:=by simp[ob,hc0]
 refine⟨A,C,r,.inr Q,⟨o.os,o.tape,o.output,o.size,λb hb G=>o.block b hb λhe=>G (by rw[m1];simpa[Value.ownBlock] using he)⟩,?_⟩;by_cases n:m+s.size<=l
 .have q:=Lib.run_append_room_string (P:=P) w t t' ty e i R B V K g m l D v6 s n N;rw[r]at q;injection q with E e2;intro g' hg';subst E;have h1:=Ad hg';have h1:=D4 h1;subst h1;exact .inl (by rw[m1];simp)
 have q:=Lib.run_append_grow_string (P:=P) w t t' ty e i (.int .u8 0) R B V p ⟨g,0,none⟩ m l d (by rw[K];exact f.1) hl s N N (by rw[L];exact growslice_fits N N);rw[r]at q;injection q with E e2;exact I A C _ _ E Q
def xe(hT:bG P G.shp T)(D:pe G ρ H w)(I:r7 (cx G ρ w) ρ fr F){vb:Value}(h:zQ T ro fr H t t' a b=some r)(o:∀p∈r.ob,p)(j:Rd (cx G ρ w) ρ a va)(J:Rd (cx G ρ w) ρ b vb)(K:ev F x=some va)(L:ev F y=some vb):
  ∃v k,aW P n F w (.call {callee:=.builtin .append,args:=#[x,y],argTypes:=#[t,t']}) ty v k/\fY G ro ρ w r F v k:=by
 unfold zQ at h;split at h
 .rename_i e sz z v6 i s q c;let⟨Q,S⟩:=(hT _ _ q).2;let⟨d,⟨m3,U,V⟩,u⟩:=S .u8 rfl;have A:=(hT _ _ c).2;cases J with|str hl=>
  have E:r6 (cx G ρ w) (s.b.flatMap (cellsOf .u8)) (Lib.strCells ⟨s.b.toArray⟩):=by
   have:Lib.strCells ⟨s.b.toArray⟩=s.b.map λb=>Value.int .u8 b.toNat:=by simp[Lib.strCells]
   generalize s.b=l;induction l with
   |nil=>exact .nil
   |cons b l m1=>exact .cons .u8 m1
  refine ox (ty:=ty) D I d E (λm B f g=>?_) h o j;let⟨R,k,Z,C⟩:=uI (P:=P) (w:=w) (ty:=ty) Q A U (u rfl).2 f ⟨s.b.toArray⟩ (by simpa[Sh.bytes,ByteArray.size] using g);exact⟨R,k,λa _ _ _ _ j=>by simp[execOp,resolve,invoke,builtin,j.ev K,j.ev L,n9.val,Z],by rw[show(ByteArray.mk s.b.toArray).size=s.b by simp[ByteArray.size]]at C;exact C⟩
 cases h
end
end Go.Proofs.YtoecbhljidgajaaGreat
