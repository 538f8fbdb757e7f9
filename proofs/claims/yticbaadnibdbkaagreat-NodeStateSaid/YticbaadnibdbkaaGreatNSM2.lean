/- What leads to the law, part 2. Conditions: each lemma's own. -/
import Derived.DeepKeys
import Derived.Laws.CopyRow
import Derived.Laws.IdiomStrings
import Derived.MapFrom
import Derived.MapKept
import Derived.Test.YticbaadnibdbkaaGreatNSM1
set_option linter.unusedVariables false
set_option linter.unusedSimpArgs false
set_option maxHeartbeats 2000000
set_option linter.defProp false
open List (flatten_cons length_drop range range' toArray)
open UInt8 (ofNat toNat_div)
namespace Go.Proofs.YticbaadnibdbkaaGreat
open Go.RowKit
def FB:=@Nat.mod_eq_of_lt
def J3:=@Nat.lt_of_le_of_lt
def L9:=@Nat.div_le_self
def G5:=@Int.toNat_natCast
def F4:=@Nat.le_of_ble_eq_true
def V0:=@BitVec.ofInt_natCast
def O4:=@BitVec.toNat_ofNat
def M0:=@Nat.or_lt_two_pow
def x6:=@Int.eq_ofNat_of_zero_le
def M4:=@Int.le_trans
def u3:=@List.mem_singleton_self
def E5:=@Nat.mod_lt
def Q8:=@Nat.le_of_lt
def H4:=@Nat.mul_le_mul_right
def A1:=@List.mem_singleton
def ts:=@List.getD_eq_getElem?_getD
def s9:=@List.length_take
def K5:=@Nat.add_zero
def G4:=@Option.map_eq_some_iff
def A9:=@List.mem_of_getElem?
def I1:=@List.getElem_mem
def J6:=@Go.heap_alloc_new
def zc:=@of_decide_eq_true
def O6:=@Nat.zero_mul
def T1:=@List.drop_zero
def O2:=@Go.MapKept.run_getObj_map
def I6:=@List.drop_drop
def D5:=@List.take_append_drop
def M1:=@Nat.mul_one
def A3:=@List.append_nil
def J4:=@List.length_map
def G6:=@Array.ext'
def I4:=@List.append_assoc
def E8:=@List.getElem?_set_self
def D2:=@Go.setRow_heap
def T2:=@List.take_zero
def T0:=@List.nil_append
def O0:=@List.drop_of_length_le
def Q6:=@List.take_take
def E3:=@Nat.min_eq_left
def T3:=@Go.growslice_fits
def K1:=@List.flatMap_append
def R0:=@Nat.mul_le_mul_left
def zB:AV->Value->Bool
 | .int n,.int .i64 m=>decide (n=m) && decide (n=0)
 | .u8 b,.int .u8 m=>decide (m=0) && decide (b=0)
 | .u64 n,.int .u64 m=>decide (m=0) && decide (n=0)
 | .bool e,.bool false=>!e.val
 | .str ⟨[]⟩,.string s=>s.data.toList.isEmpty
 | .em true,.slice none 0 0=>true
 | .fz _ a,.slice none 0 0=>a.isEmpty
 | .li _ a,.slice none 0 0=>a.isEmpty
 | .np,.pointer none=>true
 | .nf,.nilFunc=>true
 | .dead,v=>v.oneCell'
 | .xx (.er true) [],.nilIface=>true
 | .xx (.w n) [],.int .u32 m=>decide (m=0) && decide (n=0)
 | _,_=>false
def EA:List AV->List Value->Bool
 | [],[]=>true
 | a :: r,v :: b=>zB a v && EA r b
 | _,_=>false
def Wi (P:Program) (g:TypeId->Option (List LK)):List Go.Field->Nat->Option (List LK)
 | [],_=>some []
 | f :: r,o=>match g f.type with
  | some a=>match decide (f.offset=o) && decide (P.cellsOf f.type=a.length) && (f.name != "_"),Wi P g r (o+a.length) with
   | true,some l=>some (a++l)
   | _,_=>none
  | none=>none
def Tf (P:Program):Nat->TypeId->Option (List LK)
 | 0,_=>none
 | d+1,t=>match P.underlying t with
  | some (.int k)=>some [.i k]
  | some .bool=>some [.b]
  | some .string=>some [.s]
  | some (.struct F)=>match Wi P (Tf P d) F.toList 0 with
   | some a=>match decide (P.cellsOf t=a.length) with
    | true=>some a
    | false=>none
   | none=>none
  | _=>none
def V8 (P:Program) (t:TypeId) (a:List LK):Bool:=decide (Tf P 8 t=some a) && P.keyTypeAt 8 t && !P.eqGuardType P.depth t
def EqT (P:Program) (t:TypeId) (z:List AV):Prop:=∀ a,M6 z=some a->V8 P t a=true
def ap6 (P:Program) (F:Array Go.Field) (t:TypeId):Prop:=∀ i,SA t i aga=true->∃ f d,F[i]? = some f/\P.underlying f.type=some d/\ly d=false
def agn (P:Program) (shp:TypeId->Option Sh) (t:TypeId) (b:TI):Prop:=
 ((P.info? t).map (·.size)=some b.size/\∃ a:List Value,((P.info? t).bind (·.zero)).map Value.cells=some a.toArray/\EA b.zero a=true) /\
 match b.k with
 | .i k=>P.underlying t=some (.int k)
 | .bool=>P.underlying t=some .bool
 | .str=>P.underlying t=some .string
 | .sl e c=>P.underlying t=some (.slice e)/\∀ s,c=some s->shp e=some s/\(∃ z:List Value,(P.info? e).map (fun i=>(i.zero.map Value.cells,i.size,i.bytes))=some (some z.toArray,s.size,s.bytes)/\EA (cellsOf s (c5 s)) z=true)/\(s = .u8->P.underlying e=some (.int .u8)/\(P.info? e).bind (·.zero)=some (.int .u8 0))
 | .st g=>∃ F:Array Go.Field,P.underlying t=some (.struct F)/\F.toList.mapM (fun f=>(P.info? f.type).map fun i=>(f.offset,i.size))=some g/\(∀ q ∈ g,0<q.2)/\EqT P t b.zero/\ap6 P F t
 | .ar n e=>P.underlying t=some (.array n e)
 | .U1=>P.underlying t=some (.interface (P.methodsAt t))
 | .ptr=>∃ e,P.underlying t=some (.pointer e)
 | .ms k e=>P.underlying t=some (.map k e)/\P.underlying k=some .string/\(P.info? e).bind (·.zero)=some (.int .i64 0)
 | .mg k e z=>P.underlying t=some (.map k e)/\P.underlying k=some (.int .i64)/\(P.info? e).bind (·.zero)=some (.agg (z.map KC.val).toArray)
 | .mp k e c=>P.underlying t=some (.map k e)/\P.underlying k=some (.int .i64)/\(∀ s,c=some s->∃ z a,(P.info? e).bind (·.zero)=some z/\EA (cellsOf s (c5 s)) a=true/\((s.qw=true/\z = .agg a.toArray)\/(s.qw=false/\a=[z])))/\(c=none->(P.info? e).bind (·.zero)=some .nilFunc)
 | _=>∃ d,P.underlying t=some d/\ly d=false
def bz (P:Program) (shp:TypeId->Option Sh) (T:List (Nat × TI)):Prop:=∀ t a,bj T t=some a->agn P shp t a
section
variable {c:Cx} {ρ:List RE}
def QI {a:UInt8} {b:Nat}:Pd c (.u8 (ofNat (a.toNat / 2 ^ b))) (.int .u8 ((a.toNat / 2 ^ b:Nat):Int)):=by
 have e:a.toNat / 2 ^ b=(ofNat (a.toNat / 2 ^ b)).toNat:=by
  rw [H6,FB (J3 (L9 _ _) a.toNat_lt)]
 rw [show ((a.toNat / 2 ^ b:Nat):Int)=((ofNat (a.toNat / 2 ^ b)).toNat:Int) from hC _ e];exact Pd.u8
variable {a:AV}
theorem aal {v:Value} (h:zB a v=true):Rd c ρ a v:=by
 unfold zB at h;split at h
 ·simp at h;obtain ⟨rfl,rfl⟩:=h;exact Pd.int ⟨az,az⟩
 ·simp at h;obtain ⟨rfl,rfl⟩:=h;exact Pd.u8
 ·simp at h;obtain ⟨rfl,rfl⟩:=h;exact Pd.u64 az
 ·rename_i e;have:e.val=false:=by simpa using h
  rw [<- this];exact Pd.bool
 ·rename_i s;have:s=⟨#[]⟩:=by
   have d:s.data.toList=[]:=by simpa using h
   have f:s.data = #[]:=by grind
   cases s; simp_all
  subst this;exact Pd.str (s:=⟨[]⟩) aa
 ·exact Pd.em rfl
 ·rename_i s xs;have:xs=[]:=by simpa using h
  subst this;exact Pd.fz (xs:=([]:List (l5 s))) (cells:=[]) (sh _) aa aa .nil (.inl rfl)
 ·rename_i b xs;have:xs=[]:=by simpa using h
  subst this;exact Pd.li (nw:=b) (xs:=[]) (k:=0) (sh _) (F8 _) aa aa (.inl rfl)
 ·rfl
 ·rfl
 ·exact h
 ·exact ⟨[],.nil,rfl,.inl ⟨rfl,rfl⟩⟩
 ·simp at h;obtain ⟨rfl,rfl⟩:=h;exact ⟨[],.nil,rfl,am,rfl⟩
 cases h
theorem kx:∀ {b:List AV} {d:List Value},EA b d=true->hQ (Rd c ρ) b d
 | [],[],_=>.nil
 | a :: r,v :: d,h=>by
  simp [EA] at h;exact .cons (aal h.1) (kx h.2)
def aee {v:Value} (h:cAV v=some a):Rd c ρ a v:=by
 unfold cAV at h;split at h
 ·rename_i n;cases b:(decide (-9223372036854775808<=n) && decide (n<=9223372036854775807)) <;> rw [b] at h
  ·cases h
  cases h;simp at b;exact Pd.int b
 ·rename_i n;cases b:(decide (0<=n) && decide (n<256)) <;> rw [b] at h
  ·cases h
  cases h;simp at b;have e:n=((ofNat n.toNat).toNat:Int):=by rw [H6]; omega
  show Pd c _ _;rw [e,G5];have d:ofNat (ofNat n.toNat).toNat=ofNat n.toNat:=UInt8.ofNat_toNat;rw [d];exact Pd.u8
 ·rename_i n;cases b:(decide (0<=n) && decide (n<18446744073709551616)) <;> rw [b] at h
  ·cases h
  cases h;simp at b;have e:n=(n.toNat:Int):=by omega
  show Pd c _ _;rw [e,G5];exact Pd.u64 az
 ·rename_i n;cases b:(decide (0<=n) && decide (n<4294967296)) <;> rw [b] at h
  ·cases h
  cases h;simp at b;have e:((n.toNat:Nat):Int)=n:=by omega
  exact ⟨[],.nil,rfl,az,by rw [e]⟩
 ·cases h; exact Pd.bool (e:=.lit _)
 ·rename_i s;cases b:Nat.ble s.data.toList.length 140737488355328 <;> rw [b] at h
  ·cases h
  cases h;have:=F4 b;have e:=Pd.str (c:=c) (s:=⟨s.data.toList⟩) this;have d:(⟨s.data.toList⟩:o3).val = .string s:=by simp [o3.val]
  rw [d] at e;exact e
 ·cases h; exact Pd.em rfl
 ·cases h; rfl
 ·cases h; exact ⟨[],.nil,rfl,.inl ⟨rfl,rfl⟩⟩
 ·cases h; rfl
 cases h
variable {F:Fr} {tv:TV}
theorem fq {fr:j9} (h:o9 c ρ fr F) {i:Nat} (b:l1 fr i=some tv):∃ v,look F i=some v/\Rt c ρ tv v:=by
 induction h with
 | nil=>cases b
 | @cons p q fr F d _ e=>
  obtain ⟨f,g⟩:=q;unfold l1 at b;unfold look;grind
def aw {fr:j9} (h:o9 c ρ fr F) {x:Operand} (b:dI fr x=some tv):∃ v,ev F x=some v/\Rt c ρ tv v:=by
 cases x with
 | tmp i=>exact fq h b
 | const v=>
  simp [dI] at b;split at b
  ·rename_i a d;cases b;exact ⟨v,rfl,aee d⟩
  cases b
 | global g=>cases b
 | func f=>cases b; exact ⟨_,rfl,[],[],.nil,.nil,rfl⟩
theorem mQ {fr:j9} {F:Fr} (h:o9 c ρ fr F):∀ {f:List Operand} {d:List n8},Gy fr f=some d->∃ e,Vz F f=some e/\hQ (dJ c ρ) d e
 | [],d,b=>by cases b; exact ⟨[],rfl,.nil⟩
 | x :: r,d,b=>by
  simp [Gy] at b;split at b
  ·rename_i a l g i;cases b;obtain ⟨v,j,k⟩:=aw h g;obtain ⟨e,m,n⟩:=mQ h i;exact ⟨v :: e,by simp [Vz,j,m],.cons k n⟩
  cases b
theorem kP {fr:j9} {F:Fr} (h:o9 c ρ fr F):∀ {f:List (Nat × Operand)} {d:List (Nat × n8)},zq fr f=some d->∃ e,RG F f=some e/\hQ (fun p q=>p.1=q.1/\dJ c ρ p.2 q.2) d e
 | [],d,b=>by cases b; exact ⟨[],rfl,.nil⟩
 | (i,x) :: r,d,b=>by
  simp [zq] at b;split at b
  ·rename_i a l g j;cases b;obtain ⟨v,k,m⟩:=aw h g;obtain ⟨e,n,o⟩:=kP h j;exact ⟨(i,v) :: e,by simp [RG,k,n],.cons ⟨rfl,m⟩ o⟩
  cases b
end
section
variable {P:Program} {n:Nat} {fr:Fr} {w:World} {x y:Operand} {ty t t':TypeId}
theorem xA (z:Int) (h:0<=z):IntKind.u64.wrap z=((z.toNat % 18446744073709551616:Nat):Int):=by
 simp only [IntKind.wrap,IntKind.bits,IntKind.signed];simp;omega
variable {a b:Nat}
theorem R.Yy (c:ev fr x=some (.int .u64 (a:Int))) (d:ev fr y=some (.int .u64 (b:Int))):aL P n fr w (.binOp .add t x y t') ty (.int .u64 (((a+b) % 18446744073709551616:Nat):Int)) w:=by
 have:=R.XO (P:=P) (n:=n) (w:=w) (ty:=ty) (t:=t) (t':=t') c d;rw [xA _ az] at this;grind
variable {kc:IntKind}
theorem R.Hx (d:ev fr x=some (.int .u64 (a:Int))) (f:ev fr y=some (.int kc (b:Int))) (g:b<=64):aL P n fr w (.binOp .shl t x y t') ty (.int .u64 (((a*2 ^ b) % 18446744073709551616:Nat):Int)) w:=fun _ _ _ _ _ c=>by
 have e:IntKind.u64.wrap ((a:Int)*2 ^ b)=(((a*2 ^ b) % 18446744073709551616:Nat):Int):=by grind [xA]
 have h:Op.shift .shl .u64 (a:Int) kc (b:Int)=pure (.int .u64 (((a*2 ^ b) % 18446744073709551616:Nat):Int)):=by simp_all
 simp [execOp,c.ev d,c.ev f,binOp_shl];rfl
def R.aev (i:ev fr x=some (.int .u64 (a:Int))) (j:ev fr y=some (.int .u64 (b:Int))) (d:a<18446744073709551616) (f:b<18446744073709551616):aL P n fr w (.binOp .or t x y t') ty (.int .u64 ((a ||| b:Nat):Int)) w:=fun _ _ _ _ _ g=>by
 have e:bits .or .u64 (a:Int) (b:Int)=((a ||| b:Nat):Int):=by
  have h:∀ c:Nat,(BitVec.ofInt 64 (c:Int))=BitVec.ofNat 64 c:=fun c=>by rw [V0]
  show IntKind.u64.wrap ((BitVec.ofInt 64 (a:Int) ||| BitVec.ofInt 64 (b:Int)).toNat:Int)=_;rw [h,h,BitVec.toNat_or,O4,O4,FB (by simpa using d),FB (by simpa using f)];exact wrap_u64 (M0 (n:=64) d f)
 simp [execOp,g.ev i,g.ev j,eqGuard_or,binOp_or,intBits_or,e]
variable {a b:Int}
def IQ (h:0<=b) (c:a7 b):0<=MB a b/\MB a b<=b:=by
 obtain ⟨b,rfl⟩:=x6 h;unfold MB;refine ⟨I3 _,?_⟩;rw [BitVec.toNat_and,V0,O4,FB (by have:=c.2; omega)];exact Int.ofNat_le.2 Nat.and_le_right
def R.alN (f:ev fr x=some (.int .i64 a)) (g:ev fr y=some (.int .i64 b)) (i:0<=b) (c:a7 b):aL P n fr w (.binOp .and t x y t') ty (.int .i64 (MB a b)) w:=fun _ _ _ _ _ d=>by
 have e:bits .and .i64 a b=MB a b:=by
  have h:=IQ (a:=a) i c;have:=c.2;exact a7.wrap ⟨M4 am h.1,M4 h.2 this⟩
 simp [execOp,d.ev f,d.ev g,eqGuard_and,binOp_and,intBits_and,e]
def R.orI (j:ev fr x=some (.int .i64 a)) (k:ev fr y=some (.int .i64 b)) (l:0<=a) (m:0<=b) (o:a7 a) (p:a7 b):aL P n fr w (.binOp .or t x y t') ty (.int .i64 (N0 a b)) w/\a7 (N0 a b):=by
 obtain ⟨a,rfl⟩:=x6 l;obtain ⟨b,rfl⟩:=x6 m;have d:a<2 ^ 63:=by have:=o.2; omega
 have f:b<2 ^ 63:=by have:=p.2; omega
 have r:=M0 d f;have g:a7 (((a ||| b:Nat):Nat):Int):=⟨az,az⟩;have e:bits .or .i64 (a:Int) (b:Int)=((a ||| b:Nat):Int):=by
  have h:∀ c:Nat,(BitVec.ofInt 64 (c:Int))=BitVec.ofNat 64 c:=fun c=>by rw [V0]
  show IntKind.i64.wrap ((BitVec.ofInt 64 (a:Int) ||| BitVec.ofInt 64 (b:Int)).toNat:Int)=_;rw [h,h,BitVec.toNat_or,O4,O4,FB az,FB az];exact g.wrap
 have q:N0 (a:Int) (b:Int)=((a ||| b:Nat):Int):=by unfold N0; simp
 rw [q];refine ⟨fun _ _ _ _ _ i=>?_,g⟩;simp [execOp,i.ev j,i.ev k,eqGuard_or,binOp_or,intBits_or,e]
def R.anZ {b:Nat} (d:ev fr x=some (.int .i64 a)) (e:ev fr y=some (.int kc (b:Int))) (h:b<=64) (f:a7 (a*2 ^ b)):aL P n fr w (.binOp .shl t x y t') ty (.int .i64 (a*2 ^ b)) w:=fun _ _ _ _ _ c=>by
 have g:Op.shift .shl .i64 a kc (b:Int)=pure (.int .i64 (a*2 ^ b)):=by
  rw [shift_shl .i64 kc a (b:Int) (I3 b) (show (b:Int)<=((64:Nat):Int) by omega),G5,f.wrap]
 simp only [execOp,c.ev d,c.ev e,binOp_shl,g];rfl
theorem R.apj {a b:o3} (d:ev fr x=some a.val) (f:ev fr y=some b.val) (h:a.b.length+b.b.length<=140737488355328):aL P n fr w (.binOp .add t x y t') ty (o3.val ⟨a.b++b.b⟩) w:=fun _ _ _ _ _ c=>by
 have e:∀ u v:List UInt8,(⟨u.toArray⟩:ByteArray)++⟨v.toArray⟩=⟨(u++v).toArray⟩:=fun u v=>by
  apply ByteArray.ext;simp_all
 have g:∀ u:List UInt8,(⟨u.toArray⟩:ByteArray).size=u.length:=fun u=>by simp [ByteArray.size]
 have i:¬ (((a.b.length+b.b.length:Nat):Int) > IntKind.i64.max):=by
  simp; omega
 simp [execOp,c.ev d,c.ev f,o3.val,eqGuard_add,binOp,Op.stringOp];simp_all
def R.alD (d:ev fr x=some (.int .i64 a)) (f:ev fr y=some (.int .i64 b)) (g:0<=a) (h:0<b) (i:a7 a):aL P n fr w (.binOp .quo t x y t') ty (.int .i64 (a.tdiv b)) w/\a7 (a.tdiv b):=by
 obtain ⟨a,rfl⟩:=x6 g;obtain ⟨b,rfl⟩:=x6 (Int.le_of_lt h);have e:(a:Int).tdiv b=((a / b:Nat):Int):=by rw [Int.tdiv_eq_ediv_of_nonneg az]; omega
 have c:a7 ((a / b:Nat):Int):=by
  have:=L9 a b;generalize a / b=q at *;unfold a7 at i ⊢; omega
 exact ⟨R.Yn d f az c.wrap,c⟩
def R.anm (d:ev fr x=some (.int .i64 a)) (f:ev fr y=some (.int .i64 b)) (g:0<=a) (h:0<b) (i:a7 a):aL P n fr w (.binOp .rem t x y t') ty (.int .i64 (a.tmod b)) w/\a7 (a.tmod b):=by
 obtain ⟨a,rfl⟩:=x6 g;obtain ⟨b,rfl⟩:=x6 (Int.le_of_lt h);have e:(a:Int).tmod b=((a % b:Nat):Int):=by rw [Int.tmod_eq_emod_of_nonneg az]; omega
 have c:a7 ((a % b:Nat):Int):=by
  have:=Nat.mod_le a b;unfold a7 at i ⊢; omega
 exact ⟨R.YE d f az,c⟩
end
section
variable {P:Program} {T:List (Nat × TI)} {G:Gl} {n:Nat} {F:Fr} {w:World} {x y:Operand} {ty t t':TypeId} {c:Cx} {ρ:List RE}
variable {r:PR} {op:BinOp} {va:Value} {a b:AV}
def Um (hT:bz P G.shp T) {vb:Value} (m:UA T t a=true) (h:Z8 op a b=some r) (d:∀ p ∈ r.ob,p) (s:Rd c ρ a va) (u:Rd c ρ b vb) (f:ev F x=some va) (g:ev F y=some vb) :
  ∃ v,aL P n F w (.binOp op t x y t') ty v w/\Rt c ρ r.v v/\r.fc=[]:=by
 unfold Z8 at h;split at h
 ·-- ints
  cases s with | int j=>
  cases u with | int o=>
  split at h <;> cases h
  ·exact ⟨_,R.lss f g,Pd.bool (e:=.lt _ _),rfl⟩
  ·exact ⟨_,R.leq f g,Pd.bool (e:=.le _ _),rfl⟩
  ·exact ⟨_,R.gtr f g,Pd.bool (e:=.lt _ _),rfl⟩
  ·exact ⟨_,R.geq f g,Pd.bool (e:=.le _ _),rfl⟩
  ·exact ⟨_,R.eql f g,Pd.bool (e:=.eq _ _),rfl⟩
  ·exact ⟨_,R.neq f g,Pd.bool (e:=.not (.eq _ _)),rfl⟩
  ·have i:=d _ (u3 _); exact ⟨_,R.add f g i,Pd.int i,rfl⟩
  ·have i:=d _ (u3 _); exact ⟨_,R.sub f g i,Pd.int i,rfl⟩
  ·have i:=d _ (u3 _); exact ⟨_,R.mul f g i,Pd.int i,rfl⟩
  ·have i:=d _ (z6); have l:=d _ (w8 _ (u3 _));have q:=R.alD (P:=P) (n:=n) (w:=w) (ty:=ty) (t:=t) (t':=t') f g i l j;exact ⟨_,q.1,Pd.int q.2,rfl⟩
  ·have i:=d _ (z6); have l:=d _ (w8 _ (u3 _));have q:=R.anm (P:=P) (n:=n) (w:=w) (ty:=ty) (t:=t) (t':=t') f g i l j;exact ⟨_,q.1,Pd.int q.2,rfl⟩
  ·have i:=d _ (u3 _);have l:=fun z:Int=>IQ (a:=z) i o;have q:=o.2;exact ⟨_,R.alN f g i o,Pd.int ⟨M4 am (l _).1,M4 (l _).2 q⟩,rfl⟩
  have i:=d _ (z6); have l:=d _ (w8 _ (u3 _));have q:=R.orI (P:=P) (n:=n) (w:=w) (ty:=ty) (t:=t) (t':=t') f g i l j o;exact ⟨_,q.1,Pd.int q.2,rfl⟩
 ·-- bytes
  cases s with | u8=>
  cases u with | u8=>
  split at h <;> cases h
  ·exact ⟨_,R.lss f g,Pd.bool (e:=.lt _ _),rfl⟩
  ·exact ⟨_,R.leq f g,Pd.bool (e:=.le _ _),rfl⟩
  ·exact ⟨_,R.gtr f g,Pd.bool (e:=.lt _ _),rfl⟩
  ·exact ⟨_,R.geq f g,Pd.bool (e:=.le _ _),rfl⟩
  ·exact ⟨_,R.eql f g,Pd.bool (e:=.eq _ _),rfl⟩
  ·exact ⟨_,R.neq f g,Pd.bool (e:=.not (.eq _ _)),rfl⟩
  ·exact ⟨_,R.agx f g,Pd.u8,rfl⟩
  ·exact ⟨_,R.ap8 f g,Pd.u8,rfl⟩
  ·have i:=d _ (u3 _);refine ⟨_,R.YE f g i,?_,rfl⟩;rw [<- UInt8.toNat_mod];exact Pd.u8
  have i:=d _ (u3 _);refine ⟨_,R.Yn f g i ?_,?_,rfl⟩
  ·rw [<- toNat_div]; exact EY (UInt8.toNat_lt _)
  rw [<- toNat_div];exact Pd.u8
 ·cases s with | u64 j=>
  cases u with | u64 o=>
  split at h <;> cases h
  ·exact ⟨_,R.lss f g,Pd.bool (e:=.lt _ _),rfl⟩
  ·exact ⟨_,R.leq f g,Pd.bool (e:=.le _ _),rfl⟩
  ·exact ⟨_,R.gtr f g,Pd.bool (e:=.lt _ _),rfl⟩
  ·exact ⟨_,R.geq f g,Pd.bool (e:=.le _ _),rfl⟩
  ·exact ⟨_,R.eql f g,Pd.bool (e:=.eq _ _),rfl⟩
  ·exact ⟨_,R.neq f g,Pd.bool (e:=.not (.eq _ _)),rfl⟩
  ·exact ⟨_,R.Yy f g,Pd.u64 (E5 _ az),rfl⟩
  ·exact ⟨_,R.aev f g j o,Pd.u64 (M0 (n:=64) j o),rfl⟩
  ·have i:=d _ (u3 _);have l:=L9;exact ⟨_,R.Yn f g i (wrap_u64 (J3 (l _ _) j)),Pd.u64 (J3 (l _ _) j),rfl⟩
  ·have i:=d _ (u3 _);exact ⟨_,R.YE f g i,Pd.u64 (J3 (Nat.mod_le _ _) j),rfl⟩
  ·have i:=d _ (u3 _);exact ⟨_,R.Hx f g az,Pd.u64 (E5 _ az),rfl⟩
  have i:=d _ (u3 _);exact ⟨_,R.NS f g (Q8 i),Pd.u64 (J3 (L9 _ _) j),rfl⟩
 ·cases s with | u64 j=>
  cases u with | int o=>
  split at h <;> cases h
  ·have i:=d _ (z6); have l:=d _ (w8 _ (u3 _));rename_i k _ _ _;obtain ⟨k,rfl⟩:=x6 i;exact ⟨_,R.Hx f g az,Pd.u64 (E5 _ az),rfl⟩
  have i:=d _ (z6); have l:=d _ (w8 _ (u3 _));rename_i k _ _ _;obtain ⟨k,rfl⟩:=x6 i;exact ⟨_,R.NS f g (show k<=64 by omega),Pd.u64 (J3 (L9 _ _) j),rfl⟩
 ·cases s with | int j=>
  cases u with | u64 o=>
  split at h <;> cases h;have i:=d _ (z6); have l:=d _ (w8 _ (u3 _));exact ⟨_,R.anZ f g (Q8 i) l,Pd.int l,rfl⟩
 ·cases s with | u8=>
  cases u with | u64 o=>
  split at h <;> cases h;have i:=d _ (u3 _);exact ⟨_,R.NS f g (Q8 i),QI,rfl⟩
 ·cases s with | bool=>
  cases u with | bool=>
  have A:P.underlying t=some .bool:=by
   simp [UA] at m;split at m
   ·rename_i i; exact (hT _ _ i).2
   cases m
  split at h <;> cases h
  ·exact ⟨_,R.amx f g A,Pd.bool (e:=.beq _ _),rfl⟩
  exact ⟨_,R.amm f g A,Pd.bool (e:=.not (.beq _ _)),rfl⟩
 ·cases s with | str j=>
  cases u with | str o=>
  split at h <;> cases h
  ·exact ⟨_,R.alT f g,Pd.bool (e:=.seq _ _),rfl⟩
  ·exact ⟨_,R.aoP f g,Pd.bool (e:=.not (.seq _ _)),rfl⟩
  have i:=d _ (u3 _);exact ⟨_,R.apj f g i,Pd.str (by rw [r5]; exact i),rfl⟩
 ·cases s with | em j=>
  cases u with | @em _ B o=>
  have A:∃ e,P.underlying t=some (.slice e):=by
   simp [UA] at m;split at m
   ·rename_i e _ _ _ i; exact ⟨_,(hT _ _ i).2.1⟩
   cases m
  obtain ⟨e,A⟩:=A;obtain rfl:B=none:=Option.isNone_iff_eq_none.1 o.symm;subst j;split at h <;> cases h
  ·exact ⟨_,R.SG f g A,Pd.bool (e:=.lit _),rfl⟩
  exact ⟨_,R.TX f g A,Pd.bool (e:=.lit _),rfl⟩
 cases h
def af7 (a b:Int):a7 (jj a b):=by
 unfold jj; rw [IntKind.wrap_i64]; constructor <;> omega
def YB {a b:Int} (h:a7 (a - b)):jj a b=a - b:=h.wrap
def aeI (a b:Int):a7 (adv a b):=by
 unfold adv; rw [IntKind.wrap_i64]; constructor <;> omega
def OG {O:ck} (hT:bz P G.shp T) {vb:Value} (d:UA T t a=true) (h:adY O op a b=some r) (e:∀ p ∈ r.ob,p) (f:Rd c ρ a va) (g:Rd c ρ b vb) (i:ev F x=some va) (j:ev F y=some vb) :
  ∃ v,aL P n F w (.binOp op t x y t') ty v w/\Rt c ρ r.v v/\r.fc=[]:=by
 unfold adY at h;split at h
 ·cases h;cases f with | int k=>
  cases g with | int l=>
  exact ⟨_,R.akb i j,Pd.int (af7 _ _),rfl⟩
 ·cases h;cases f with | int k=>
  cases g with | int l=>
  exact ⟨_,R.XO i j,Pd.int (aeI _ _),rfl⟩
 exact Um hT d h e f g i j
end
section
variable {G:Gl} {ρ:List RE} {H:AH} {w:World}
variable {t:TypeId}
theorem cc (f:oh G ρ H w) {id:Nat} {s:Sh} {c:List (l5 s)} (h:l4 H id = .row t s c):(ρ[id]? = some .emp/\c=[]) \/
  ∃ g b a d,ρ[id]? = some (.row g b c.length s.size)/\w.heap[g]? = some (.cells (toArray (a++d)) t (0,0))/\p0 (cx G ρ w) (c.flatMap (cellsOf s)) a/\(a++d).length=b*s.size/\c.length<=b/\b<=maxLen:=by
 obtain ⟨r,i,k,l,e⟩:=f.at_ (cq h aa);rcases e with ⟨rfl,e⟩ | ⟨g,b,a,d,rfl,j⟩
 ·grind
 exact .inr ⟨g,b,a,d,i,j⟩
def dZ (b:oh G ρ H w) {id:Nat} {s:Sh} {a:List (l5 s)} (c:l4 H id = .row t s a):G.shp t=some s/\a.length*s.bytes<=140737488355328:=by
 obtain ⟨r,f,d,e,g⟩:=b.at_ (cq c aa);exact ⟨d,e⟩
theorem db {g:Nat} {cells sp:List Value} {f:Nat × Nat} (h:w.heap[g]? = some (.cells (toArray (cells++sp)) t f)):ie w ⟨g,0,none⟩ cells:=fun j v a=>by
 rw [add_lit,x7,cell_of_row w g j _ t f h];grind
def ie.drop {a:Addr} {b:List Value} (h:ie w a b) (i:Nat):ie w (a.add i) (b.drop i):=h.shift i
def cC {c:Cx} {s:Sh} {b:List (l5 s)} {a:List Value} (h:p0 c (b.flatMap (cellsOf s)) a) (i:Nat):p0 c ((b.drop i).flatMap (cellsOf s)) (a.drop (i*s.size)):=by
 rw [<- p_]; exact h.drop _
def bU {c:Cx} {s:Sh} {b:List (l5 s)} {a:List Value} (h:p0 c (b.flatMap (cellsOf s)) a) (i:Nat):p0 c ((b.take i).flatMap (cellsOf s)) (a.take (i*s.size)):=by
 rw [<- xp]; exact h.take _
structure G2 (c:Cx) (s:Sh) (xs:List (l5 s)) (v:Value):Prop where
 ex:∃ a k cells,v = .slice a xs.length k/\xs.length<=k/\k<=maxLen/\p0 c (xs.flatMap (cellsOf s)) cells/\(xs=[]\/∃ A,a=some A/\A.block<c.w.heap.size/\ie c.w A cells)
 le:xs.length*s.bytes<=140737488355328
theorem Pd.aat {c:Cx} {s:Sh} {d:List (l5 s)} {v:Value} (h:Pd c (.fz s d) v) (f:∀ b,c.S b->b<c.w.heap.size):G2 c s d v:=by
 cases h with
 | fz g i j k e=>
  refine ⟨⟨_,_,_,rfl,g,i,k,?_⟩,j⟩;rcases e with e | ⟨A,l,a,m⟩
  ·grind
  exact .inr ⟨A,l,f _ a.1,m⟩
def qh {a b m M:Nat} (h:b*m<=M) (k:a<=b):a*m<=M:=z7 (H4 _ k) h
variable {a:AV}
theorem Jv (k:oh G ρ H w) {s:Sh} {r:List (l5 s)} {v:Value} (e:a.vw H = .fz s r) (h:Rd (cx G ρ w) ρ a v):G2 (cx G ρ w) s r v:=by
 cases a with
 | fz u o=>simp only [AV.vw] at e; cases e; exact Pd.aat h fun b A=>A.1
 | own id=>
  simp [AV.vw] at e;split at e
  ·rename_i t u o m;cases e;have f:=(dZ k m).2;rcases cc k m with ⟨x,rfl⟩ | ⟨g,n,c,B,l,p,q,C,y,z⟩
   ·rcases h with ⟨_,_,_,_,h,_⟩ | ⟨_,a,rfl⟩
    ·grind
    exact ⟨⟨a,0,[],rfl,sh _,by simp [maxLen],.nil,.inl rfl⟩,f⟩
   rcases h with ⟨_,_,_,_,h,rfl⟩ | ⟨h,_⟩
   ·rw [l] at h; cases h;exact ⟨⟨_,_,c,rfl,y,z,q,.inr ⟨_,rfl,(k.sr _ _ g l rfl).2.1,db p⟩⟩,f⟩
   grind
  cases e
 | sub id d len=>
  simp [AV.vw] at e;split at e
  ·rename_i t u o m;cases e;have f:=(dZ k m).2;have i:((o.drop d).take len).length*s.bytes<=140737488355328:=qh f (by simp; omega);rcases cc k m with ⟨x,rfl⟩ | ⟨g,n,c,B,l,p,q,C,y,z⟩
   ·rcases h with ⟨_,_,_,_,h,_⟩ | ⟨_,rfl,rfl,a,rfl⟩
    ·rw [x] at h; cases h
    exact ⟨⟨a,0,[],rfl,aa,by simp [maxLen],.nil,.inl rfl⟩,i⟩
   rcases h with ⟨_,_,_,_,h,D,rfl⟩ | ⟨h,_⟩
   ·rw [l] at h; cases h;have j:((o.drop d).take len).length=len:=by simp; omega
    refine ⟨⟨some ⟨g,d*s.size,none⟩,n - d,(c.drop (d*s.size)).take (len*s.size),by rw [j],by rw [j]; omega,az,bU (cC q d) len,.inr ⟨_,rfl,(k.sr _ _ g l rfl).2.1,?_⟩⟩,i⟩;have:=((db p).drop (d*s.size)).take (len*s.size);rwa [add_lit,x7] at this
   rw [l] at h; cases h
  cases e
 | _=>simp [AV.vw] at e
theorem oI (u:oh G ρ H w) {c:Cx} (m:(cx G ρ w).le c) (x:c.w=w) {v:Value} (h:Rd (cx G ρ w) ρ a v)
  (A:∀ g f len z,(∃ id,(a = .own id\/∃ o l,a = .sub id o l)/\ρ[id]? = some (.row g f len z))->c.S g) {s:Sh} {xs:List (l5 s)} (d:a.vw H = .fz s xs):Pd c (.fz s xs) v:=by
 cases a with
 | fz B n=>simp only [AV.vw] at d; cases d; exact Pd.c8 h m
 | own id=>
  simp [AV.vw] at d;split at d
  ·rename_i t B n p;cases d;have e:=(dZ u p);rcases cc u p with ⟨C,rfl⟩ | ⟨g,f,cells,I,j,q,y,J,D,F⟩
   ·rcases h with ⟨_,_,_,_,h,_⟩ | ⟨_,a,rfl⟩
    ·grind
    exact .fz (xs:=([]:List (l5 s))) (cells:=[]) (sh _) aa aa .nil (.inl rfl)
   rcases h with ⟨_,_,_,_,h,rfl⟩ | ⟨h,_⟩
   ·rw [j] at h; cases h;refine .fz D F e.2 (y.c8 m) (.inr ⟨_,rfl,⟨A g _ _ _ ⟨id,.inl rfl,j⟩,.inr ⟨_,t,(0,0),by rw [x]; exact q,by rw [m.shp]; exact e.1,fun _=>rfl⟩⟩,by rw [x]; exact db q⟩)
   grind
  cases d
 | sub id b len=>
  simp [AV.vw] at d;split at d
  ·rename_i t B n p;cases d;have e:=(dZ u p);have r:((n.drop b).take len).length*s.bytes<=140737488355328:=qh e.2 (by simp; omega);rcases cc u p with ⟨C,rfl⟩ | ⟨g,f,cells,I,j,q,y,J,D,F⟩
   ·rcases h with ⟨_,_,_,_,h,_⟩ | ⟨_,rfl,rfl,a,rfl⟩
    ·rw [C] at h; cases h
    exact .fz (xs:=([]:List (l5 s))) (cells:=[]) (sh _) aa aa .nil (.inl rfl)
   rcases h with ⟨_,_,_,_,h,K,rfl⟩ | ⟨h,_⟩
   ·rw [j] at h; cases h;have i:((n.drop b).take len).length=len:=by simp; omega
    have:=Pd.fz (c:=c) (s:=s) (xs:=(n.drop b).take len) (a:=some ⟨g,b*s.size,none⟩) (k:=f - b) (cells:=(cells.drop (b*s.size)).take (len*s.size)) (by rw [i]; omega) az r ((bU (cC y b) len).c8 m) (.inr ⟨_,rfl,⟨A g _ _ _ ⟨id,.inr ⟨_,_,rfl⟩,j⟩,.inr ⟨_,t,(0,0),by rw [x]; exact q,by rw [m.shp]; exact e.1,fun _=>rfl⟩⟩,by
     rw [x];have:=((db q).drop (b*s.size)).take (len*s.size);rwa [add_lit,x7] at this⟩)
    rwa [i] at this
   rw [j] at h; cases h
  cases d
 | _=>simp [AV.vw] at d
theorem Pd.qp {c:Cx} {v:Value} (h:Pd c a v):∀ p ∈ a.ok,p:=by
 intro p d;cases h;case int b=>rw [A1.1 d]; exact b
 case u64 b=>rw [A1.1 d]; exact b
 case str b=>rw [A1.1 d]; exact b
 case fz b _ _ _ _=>rw [A1.1 d]; assumption
 all_goals cases d
def p0.qp {c:Cx}:∀ {b:List AV} {e:List Value},p0 c b e->∀ p ∈ Ng b,p
 | [],_,h=>by cases h; simp [Ng]
 | _ :: _,_,h=>by
  cases h with
  | cons f g=>
   intro p d;simp [Ng] at d;exact d.elim (f.qp p) (g.qp p)
def Rd.qp {c:Cx} {a:AV} {v:Value} (h:Rd c ρ a v):∀ p ∈ a.ok,p:=by
 cases a;case int=>exact Pd.qp h
 case u64=>exact Pd.qp h
 case str=>exact Pd.qp h
 case fz=>exact Pd.qp h
 all_goals simp [AV.ok]
def K9.qp {c:Cx} {b:List AV} {e:List Value} (h:hQ (Rd c ρ) b e):∀ p ∈ Ng b,p:=by
 induction h with
 | nil=>simp [Ng]
 | cons f _ g=>
  intro p d;simp [Ng] at d;exact d.elim (f.qp p) (g p)
def dJ.qp {c:Cx} {t:n8} {v:Value} (h:dJ c ρ t v):∀ p ∈ t.ok,p:=by
 cases t with
 | c a=>exact Rd.qp h
 | agg l=>obtain ⟨b,_,h⟩:=h; exact K9.qp h
def Yh.qp {c:Cx} {b:List n8} {e:List Value} (h:hQ (dJ c ρ) b e):∀ p ∈ LH b,p:=by
 induction h with
 | nil=>simp [LH]
 | cons f _ g=>
  intro p d;simp [LH] at d;exact d.elim (f.qp p) (g p)
theorem dJ.cells {c:Cx} {t:n8} {v:Value} (h:dJ c ρ t v):∃ b,v.cells=toArray b/\hQ (Rd c ρ) t.cells b:=by
 cases t with
 | c a=>
  refine ⟨[v],?_,.cons h .nil⟩;have:=Rd.one h;cases v <;> simp_all [Value.cells,Value.oneCell']
 | agg l=>obtain ⟨d,rfl,h⟩:=h; exact ⟨d,rfl,h⟩
theorem Fa (p:oh G ρ H w) {v:Value} (h:Rd (cx G ρ w) ρ a v) {q:List AV} {o:Nat} (b:zC H a=some (q,o)) :
  ∃ A e,v = .pointer (some A)/\ie w A (e.drop o)/\hQ (Rd (cx G ρ w) ρ) q e:=by
 cases a <;> simp only [zC] at b;case ptr id k=>
  split at b
  ·rename_i t l m;cases b;obtain ⟨r,D,g,e,rfl,c,d⟩:=p.at_ (cq m aa);obtain ⟨F,u,rfl⟩:=h;rw [D] at u; cases u;refine ⟨_,e,rfl,?_,d⟩;have:=(db (cells:=e) (sp:=[]) (by simpa using c)).drop o;rwa [add_lit,x7] at this
  cases b
 case x8 id i k=>
  split at b
  ·rename_i t s j m;cases b;obtain ⟨g,I,len,z,c,d,rfl⟩:=h;rcases cc p m with ⟨O,rfl⟩ | ⟨F,y,cells,sp,f,J,K,P⟩
   ·grind
   rw [f] at c; cases c;have B:j[i]? = some j[i]:=p6 d;have L:j.getD i (c5 s)=j[i]:=by rw [ts,B]; rfl
   rw [L];have C:=(K.drop (i*s.size)).take s.size;rw [pt B] at C;refine ⟨_,_,rfl,?_,iv C⟩;have:=(((db J).drop (i*s.size)).take s.size).drop o;rwa [add_lit,add_lit,x7] at this
  cases b
 case fe s x k=>
  cases b;obtain ⟨A,cells,c,d,f,rfl⟩:=h;exact ⟨_,cells,rfl,d.drop _,iv f⟩
 case xx k l=>
  split at b;all_goals first | cases b | skip
  all_goals try (rename_i n; cases n)
  obtain ⟨N,c,A,rfl,d,f⟩:=h;exact ⟨A,N,rfl,f.drop _,by cases c with | cons c d=>cases d; exact .cons c .nil⟩
 all_goals cases b
end
section
variable {P:Program} {T:List (Nat × TI)} {G:Gl} {n:Nat} {F:Fr} {w:World} {x y:Operand} {ty t t':TypeId} {ρ:List RE} {H:AH}
variable {r:PR} {a:AV}
theorem BM (hT:bz P G.shp T) (S:oh G ρ H w) {v:Value} (h:Rd (cx G ρ w) ρ a v) (L:ev F x=some v) (f:Jn T H t a=some r):∃ u,aL P n F w (.load t x) ty u w/\Rt (cx G ρ w) ρ r.v u/\r.ob=[]/\r.fc=[]:=by
 unfold Jn at f;split at f
 ·rename_i B N o C D;obtain ⟨A,U,rfl,O,j⟩:=Fa S h D;obtain ⟨⟨I,_⟩,c⟩:=hT _ _ C;have l:∀ (_:Nat.ble (o+B.size) N.length=true) (d:TypeDesc),P.underlying t=some d->ly d=true->aL P n F w (.load t x) ty (.agg (((U.drop o).take B.size).toArray)) w:=fun p d q s=>by
   have V:=F4 p;have Q:=j.length;exact R.abS L q s (by rw [I,s9,length_drop]; congr 1; omega) (O.take _)
  have z:∀ (a:AV) (d:TypeDesc),P.underlying t=some d->ly d=false->N[o]? = some a->∃ u,aL P n F w (.load t x) ty u w/\Rd (cx G ρ w) ρ a u:=fun a d q s W=>by
   obtain ⟨u,J,X⟩:=eE j o a W;refine ⟨u,R.aaL L q s ?_,X⟩;have:=O 0 u (by rw [C7,K5]; exact J);rwa [xi] at this
  split at f
  ·rename_i y g p;cases f;rw [g] at c;obtain ⟨Fs,J,_⟩:=c;exact ⟨_,l p _ J rfl,⟨_,rfl,(j.drop _).take _⟩,rfl,rfl⟩
  ·rename_i m e g p;cases f;rw [g] at c;exact ⟨_,l p _ c rfl,⟨_,rfl,(j.drop _).take _⟩,rfl,rfl⟩
  ·cases f
  ·cases f
  ·cases f
  rename_i k b h1 h2 h3;split at f
  ·rename_i a s;cases f;have:∃ d,P.underlying t=some d/\ly d=false:=by
    cases g:B.k <;> rw [g] at c;case i=>exact ⟨_,c,rfl⟩
    case bool=>exact ⟨_,c,rfl⟩
    case str=>exact ⟨_,c,rfl⟩
    case sl=>exact ⟨_,c.1,rfl⟩
    case st=>simp_all
    case ar=>simp_all
    case mp=>exact ⟨_,c.1,rfl⟩
    case U1=>exact ⟨_,c,rfl⟩
    case ms=>exact ⟨_,c.1,rfl⟩
    case mg=>exact ⟨_,c.1,rfl⟩
    case ptr=>obtain ⟨e,c⟩:=c; exact ⟨_,c,rfl⟩
    all_goals exact c
   obtain ⟨d,q,K⟩:=this;obtain ⟨u,Y,Z⟩:=z a d q K s;exact ⟨u,Y,Z,rfl,rfl⟩
  cases f
 cases f
theorem yr {g c:Type} {f:g->Option c}:∀ {l:List g} {r:List c},l.mapM f=some r->∀ (i:Nat) (q:c),r[i]? = some q->∃ a,l[i]? = some a/\f a=some q
 | a :: l,r,h,i,q,d=>by
  simp [Option.bind_eq_some_iff] at h;obtain ⟨b,j,k,e,rfl⟩:=by simpa using h
  cases i with
  | zero=>simp at d; subst d; exact ⟨a,rfl,j⟩
  | succ i=>simpa using yr e i q (by simpa using d)
def MU (hT:bz P G.shp T) {c:Cx} {v:Value} {J:List (Nat × Nat)} {sz:Nat} {z:List AV} {i o k:Nat} (N:bj T t=some ⟨.st J,sz,z⟩) (K:J[i]? = some (o,k)) (h:Rd c ρ a v) (q:ev F x=some v) (b:a.qc o=some r) :
  ∃ u,aL P n F w (.fieldAddr t x i) ty u w/\Rt c ρ r.v u/\r.ob=[]/\r.fc=[]:=by
 obtain ⟨_,O,B,Q,S,_⟩:=hT _ _ N;obtain ⟨f,U,j⟩:=yr Q i _ K;rw [G4] at j;obtain ⟨l,m,V⟩:=j;cases V;have W:=S _ (A9 K);have d:(P.info? f.type).map (·.size)=some (l.size - 1+1):=by rw [m]; show some l.size=some _; congr 1; simp only at W; omega
 have C:O[i]? = some f:=by simpa using U
 cases a with
 | ptr id L=>
  simp [AV.qc,pr] at b;subst b;obtain ⟨g,p,rfl⟩:=h;have:=R.fieldAddr (P:=P) (n:=n) (w:=w) (ty:=ty) q B C rfl d;rw [add_lit] at this;exact ⟨_,this,⟨g,p,rfl⟩,rfl,rfl⟩
 | x8 id Y L=>
  simp [AV.qc,pr] at b;subst b;obtain ⟨g,D,len,z,p,I,rfl⟩:=h;have:=R.fieldAddr (P:=P) (n:=n) (w:=w) (ty:=ty) q B C rfl d;rw [add_lit] at this;exact ⟨_,this,⟨g,D,len,z,p,I,by rw [Nat.add_assoc]⟩,rfl,rfl⟩
 | fe s Z L=>
  simp [AV.qc,pr] at b;subst b;obtain ⟨A,e,p,I,X,rfl⟩:=h;have:=R.fieldAddr (P:=P) (n:=n) (w:=w) (ty:=ty) q B C rfl d;rw [add_add] at this;exact ⟨_,this,⟨A,e,p,I,X,rfl⟩,rfl,rfl⟩
 | _=>simp [AV.qc] at b
end
def BW:List Value->Value
 | [v]=>v
 | l=>.tuple l.toArray
def s6 (P:Program) (shp:TypeId->Option Sh) (f:Nat) (args:List n8) (H:AH) (r:z8):Prop:=
 (∃ d,P.funcs[f]? = some d/\(d.name == "runtime.NumGoroutine")=false/\d.body.isNone=false) /\
 ∀ (G:Gl) (b:List RE) (w:World) (h:List Value),G.shp=shp->oh G b H w->hQ (dJ (cx G b w) b) args h->kI P f h.toArray w fun v c=>∃ e,v=BW e/\match r.out with
  | none=>Kp [] w c /\ hQ (dJ (cx G b c) b) r.rs e
  | some k=>∃ a,oh G a k c /\ u1 b w a c /\ (∀ (i g:Nat),b[i]? = some (.blk g)->a[i]? = some (.blk g))/\hQ (dJ (cx G a c) a) r.rs e/\(r.dm=true->Kp [] w c /\ ∀ (i:Nat) (j:RE),b[i]? = some j->a[i]? = some j)
def ay (P:Program) (shp:TypeId->Option Sh) (O:ck):Prop:=∀ f args H r,O f args H=some r->(∀ p ∈ r.pre,p)->s6 P shp f args H r
theorem bQ {i:Nat}:∀ {l:List Nat},cM i l=true↔i ∈ l
 | []=>by simp [cM]
 | j :: r=>by
  unfold cM;cases a:Nat.beq i j
  ·have:i≠j:=by rintro rfl; simp at a
   simp [bQ,this]
  simp_all
theorem kn {σ:List Nat}:∀ {l:List Nat},rG σ l=true↔∀ i ∈ l,i ∈ σ
 | []=>by simp [rG]
 | j :: r=>by simp [rG,bQ,kn]
theorem nR {σ:List Nat}:∀ {l:List Nat},qF σ l=true↔∀ i ∈ l,i ∉ σ
 | []=>by simp [qF]
 | j :: r=>by
  simp [qF,nR,<- Bool.not_eq_true,bQ]
theorem kQ:∀ {l:List Nat},lT l=true↔l.Nodup
 | []=>by simp [lT]
 | j :: r=>by
  simp [lT,kQ,<- Bool.not_eq_true,bQ]
theorem ju {H:AH} {σ:List Nat}:∀ {l:List Nat},iC H σ l=true↔∀ i ∈ l,i<H.length/\∀ j ∈ (l4 H i).ids,j ∈ σ
 | []=>by simp [iC]
 | j :: r=>by simp [iC,ju,kn]
theorem lL {i:Nat}:∀ {σ:List Nat},i ∈ σ->σ[posOf i σ]? = some i
 | j :: r,h=>by
  unfold posOf;cases b:Nat.beq i j
  ·have a:i≠j:=by rintro rfl; simp at b
   have:i ∈ r:=by simpa [a] using h
   simpa using lL this
  simp_all
def dL (a:List RE) (σ:List Nat):List RE:=σ.map fun i=>a.getD i .no
variable {σ:List Nat} {i j:Nat} {ρ:List RE}
theorem pQ (h:σ[j]? = some i):(dL ρ σ)[j]? = some (ρ.getD i .no):=by simp [dL,h]
variable {r:RE}
def getD_some (h:ρ[i]? = some r):ρ.getD i .no=r:=by rw [ts,h]; rfl
def iY (h:i ∈ σ) (a:ρ[i]? = some r):(dL ρ σ)[posOf i σ]? = some r:=by rw [pQ (lL h),getD_some a]
theorem fX (h:(dL ρ σ)[j]? = some r) (a:r ≠ .no):ρ[σ.getD j 0]? = some r:=by
 simp [dL] at h;grind
def hU {b:Nat} (h:live (dL ρ σ) b):live ρ b:=by
 obtain ⟨j,r,c,a⟩:=h;exact ⟨_,r,fX c (by rintro rfl; cases a),a⟩
theorem nb {ρ a:List RE} {f:Nat->Nat}:∀ {l:List (Nat × Nat)} {b:List Value},(∀ i ∈ l.map (·.1),∀ g,ρ[i]? = some (.blk g)->a[f i]? = some (.blk g))->hQ (eQ ρ) l b->hQ (eQ a) (UZ f l) b
 | [],_,_,h=>by cases h; exact .nil
 | (i,o) :: r,_,c,h=>by
  cases h with
  | cons k m=>
   obtain ⟨g,n,e⟩:=k;exact .cons ⟨g,c i aa g n,e⟩ (nb (fun j d=>c j (by simp at d ⊢; exact .inr d)) m)
def Rd.mN {c y:Cx} {ρ q:List RE} {f:Nat->Nat} {a:AV} {v:Value} (p:a.plain=true->Pd c a v->Pd y a v) (B:∀ s x o,a = .fe s x o->Rd y q a v) (C:∀ k A t,a = .xx k A->k.rd c t v->k.rd y t v) (m:∀ i ∈ a.ids,∀ r,ρ[i]? = some r->r ≠ .no->q[f i]? = some r) (h:Rd c ρ a v):Rd y q (a.mN f) v:=by
 cases a with
 | own id=>
  rcases h with ⟨g,d,len,z,h,e⟩ | ⟨h,e⟩
  ·exact .inl ⟨g,d,len,z,m id (by simp [AV.ids]) _ h aa,e⟩
  exact .inr ⟨m id (by simp [AV.ids]) _ h aa,e⟩
 | sub id o l=>
  rcases h with ⟨g,d,len,z,h,e⟩ | ⟨h,e⟩
  ·exact .inl ⟨g,d,len,z,m id (by simp [AV.ids]) _ h aa,e⟩
  exact .inr ⟨m id (by simp [AV.ids]) _ h aa,e⟩
 | ptr id o=>
  obtain ⟨g,h,e⟩:=h;exact ⟨g,m id (by simp [AV.ids]) _ h aa,e⟩
 | x8 id i o=>
  obtain ⟨g,d,len,z,h,e⟩:=h;exact ⟨g,d,len,z,m id (by simp [AV.ids]) _ h aa,e⟩
 | fn g b A=>
  obtain ⟨G,t,D,F,e⟩:=h;refine ⟨G,t,nb (fun i u g w=>m i ?_ _ w aa) D,nb (fun i u g w=>m i ?_ _ w aa) F,e⟩
  ·simp only [AV.ids,y2]; exact .inl u
  simp only [AV.ids,y2]; exact .inr u
 | fe s x o=>exact B s x o rfl
 | xx k A=>
  obtain ⟨t,D,F⟩:=h;exact ⟨t,nb (fun i u g w=>m i u _ w aa) D,C k A t rfl F⟩
 | mq id=>
  obtain ⟨g,h,e⟩:=h;exact ⟨g,m id (by simp [AV.ids]) _ h aa,e⟩
 | np=>exact h
 | nf=>exact h
 | yl l=>exact h
 | dead=>exact h
 | int n=>exact p rfl h
 | u8 b=>exact p rfl h
 | u64 n=>exact p rfl h
 | bool e=>exact p rfl h
 | str s=>exact p rfl h
 | em b=>exact p rfl h
 | li I H=>exact p rfl h
 | fz s H=>exact p rfl h
theorem gG {f:Sh->Bool}:∀ {l:List Sh},kq f l=true↔∀ s ∈ l,f s=true
 | []=>by simp [kq]
 | s :: r=>by simp [kq,gG]
def kU {s:Sh} {x:l5 s} {a:Sh} {b:List (l5 a)} (h:AV.fz a b ∈ cellsOf s x):a ∈ s.iy:=by
 cases s with
 | nm t=>cases t <;> simp [cellsOf,NT.cells] at h <;> first | (simp [Sh.iy,NT.iy,h]; done) | (rcases h with h | h | h <;> simp [Sh.iy,NT.iy,h.1]; done) | (rcases h with h | h | h | h <;> simp [Sh.iy,NT.iy,h.1]; done) | (rcases h with h | h <;> simp [Sh.iy,NT.iy,h.1])
 | G7 s=>simp [cellsOf] at h; simp [Sh.iy,h.1]
 | _=>simp [cellsOf] at h
def ky {s:Sh} {x:l5 s} {a:Bool} {b:List Int} (h:AV.li a b ∈ cellsOf s x):Sh.int ∈ s.iy:=by
 cases s with
 | nm t=>cases t <;> simp [cellsOf,NT.cells] at h <;> simp [Sh.iy,NT.iy]
 | lx=>simp [Sh.iy]
 | _=>simp [cellsOf] at h
def WB (n:Nat) (b:Sh):AV->Bool
 | .fz s _=>Sh.no n b s
 | .li _ _=>Sh.no n b .int
 | _=>true
variable {c':Cx}
def XK.rd.unl {c:Cx} {e:List Sh} {k:XK} {q:List (Nat × Nat)} {m:List Value} {v:Value} (d:c'.w=c.w) (n:c'.shp=c.shp) (f:c'.B0=c.B0)
  (s:∀ b,c.S b->c'.S b\/(¬ b<c.B0/\∃ o ∈ e,∃ g t fr,c.w.heap[b]? = some (.cells g t fr)/\c.shp t=some o)) (h:k.rd c m v) (l:∀ b ∈ e,(AV.xx k q).no b=true):k.rd c' m v:=by
 by_cases p:e=[]
 ·subst p;exact h.le ⟨n,f,fun b a=>⟨(s b a).resolve_right fun ⟨_,o,h,_⟩=>by simp at h,by rw [d]⟩,fun b _ _=>by rw [d]⟩
 obtain ⟨b,a⟩:=List.exists_mem_of_ne_nil _ p;have:=l b a;cases k;case er=>exact h
 case bp=>exact h
 case w=>exact h
 case kf=>exact h
 case ff=>exact XK.abi h ⟨n,f,fun b a=>⟨⟨by rw [f]; exact a.1,by rw [d]; exact a.2⟩,by show c'.w.heap[b]? = _; rw [d]; rfl⟩,fun b _ _=>by show c'.w.heap[b]? = _; rw [d]; rfl⟩
 all_goals simp [AV.no] at this
variable {a:AV}
theorem Pd.NB {c:Cx} (u:List Sh) (q:c'.w=c.w) (K:c'.shp=c.shp) (H:c'.B0=c.B0)
  (W:∀ b,c.S b->c'.S b\/(¬ b<c.B0/\∃ L ∈ u,∃ d t fr,c.w.heap[b]? = some (.cells d t fr)/\c.shp t=some L)) {v:Value} (h:Pd c a v):∀ n,(∀ b ∈ u,WB n b a=true)->Pd c' a v:=by
 refine @Pd.rec c (fun a v _=>∀ n,(∀ b ∈ u,WB n b a=true)->Pd c' a v) (fun z X _=>∀ n,(∀ a ∈ z,∀ b ∈ u,WB n b a=true)->p0 c' z X) ?_ ?_ ?_ ?_ ?_ ?_ ?_ ?_ ?_ ?_ a v h
 ·intro n f _ _; exact .int f
 ·intro b _ _; exact .u8
 ·intro n f _ _; exact .u64 f
 ·intro e _ _; exact .bool
 ·intro s f _ _; exact .str f
 ·intro b a f _ _; exact .em f
 ·intro s xs a k N f B O _ m ih n g;have l:∀ b ∈ u,s≠b/\∀ P ∈ s.iy,Sh.no (n - 1) b P = true:=fun b I=>by
   have:=g b I;cases n with
   | zero=>simp [WB,Sh.no] at this
   | succ n=>
    simp [WB,Sh.no,gG] at this;exact this
  refine .fz f B O (ih (n - 1) fun x J b I=>?_) ?_
  ·rw [List.mem_flatMap] at J;obtain ⟨y,_,Y⟩:=J;cases x with
   | fz P ys=>exact (l b I).2 P (kU Y)
   | li nw ys=>exact (l b I).2 .int (ky Y)
   | _=>rfl
  rcases m with m | ⟨A,Q,o,T⟩
  ·exact .inl m
  refine .inr ⟨A,Q,?_,by rw [q]; exact T⟩;rcases W _ o.1 with p | ⟨p,L,C,d,t,fr,Z,i⟩
  ·refine ⟨p,?_⟩;rw [H,q,K]; exact o.2
  rcases o.2 with j | ⟨D,t',U,j,h10,_⟩
  ·exact absurd j p
  grind
 ·intro nw xs a k f B O h4 m n g;refine .li f B O h4 ?_;rcases m with m | ⟨A,Q,hn,ho,T⟩
  ·exact .inl m
  have l:c.at .int A.block->c'.at .int A.block:=fun k=>by
   rcases W _ k.1 with p | ⟨p,L,C,D,t',U,Z,i⟩
   ·exact ⟨p,by rw [H,q,K]; exact k.2⟩
   rcases k.2 with V | ⟨d,t,fr,F,G,_⟩
   ·exact absurd V p
   rw [Z] at F; cases F;rw [i] at G; cases G;have:=g _ C;cases n <;> simp [WB,Sh.no] at this
  refine .inr ⟨A,Q,fun e=>?_,fun e=>(ho e).imp (fun k=>⟨by rw [H]; exact k.1,by rw [q]; exact k.2⟩) l,by rw [q]; exact T⟩;obtain ⟨k1,V,d,t,fr,F,G,k6⟩:=hn e;have k5:=l ⟨k1,.inr ⟨d,t,fr,F,G,fun _=>k6⟩⟩;exact ⟨k5.1,by rw [H]; exact V,d,t,fr,by rw [q]; exact F,by rw [K]; exact G,k6⟩
 ·intro _ _; exact .nil
 intro a v r X _ _ f B n g;exact .cons (f n (g a aa)) (B n fun x J=>g x (by simp [J]))
theorem Ae {b:Sh}:∀ {l:List AV},P7 b l=true↔∀ a ∈ l,a.no b=true
 | []=>by simp [P7]
 | a :: r=>by simp [P7,Ae]
theorem zH {b:Sh}:∀ {l:List n8},S1 b l=true↔∀ t ∈ l,∀ a ∈ t.cells,a.no b=true
 | []=>by simp [S1]
 | a :: r=>by simp [S1,zH,Ae]
theorem qR {H:AH} {i:Nat} {t:TypeId} {s:Sh} {b:List (l5 s)} (h:l4 H i = .row t s b):∀ {l:List Nat},i ∈ l->s ∈ fU H l
 | j :: r,hi=>by
  rcases u2.1 hi with rfl | hi
  ·simp [fU,h]
  have:=qR h hi;unfold fU;grind
theorem pb {c c':Cx} {ρ d:List RE} {f:Nat->Nat}:∀ {b:List AV} {e:List Value},(∀ a ∈ b,∀ v,Rd c ρ a v->Rd c' d (a.mN f) v)->hQ (Rd c ρ) b e->hQ (Rd c' d) (Te f b) e
 | [],_,_,h=>by cases h; exact .nil
 | a :: r,_,g,h=>by cases h with | cons k l=>exact .cons (g a aa _ k) (pb (fun x m=>g x (by simp [m])) l)
variable {t:n8}
def Sx {c:Cx} {b:List RE} {f:Nat->Nat} {v:Value} (d:∀ a ∈ t.cells,∀ v,Rd c ρ a v->Rd c' b (a.mN f) v) (h:dJ c ρ t v):dJ c' b (t.mN f) v:=by
 cases t with
 | c a=>exact d a (by simp [n8.cells]) _ h
 | agg l=>obtain ⟨e,rfl,h⟩:=h; exact ⟨e,rfl,pb d h⟩
theorem mY {c c':Cx} {ρ b:List RE} {f:Nat->Nat}:∀ {d:List n8} {e:List Value},(∀ t ∈ d,∀ a ∈ t.cells,∀ v,Rd c ρ a v->Rd c' b (a.mN f) v)->hQ (dJ c ρ) d e->hQ (dJ c' b) (jF f d) e
 | [],_,_,h=>by cases h; exact .nil
 | t :: r,_,g,h=>by cases h with | cons k l=>exact .cons (Sx (g t aa) k) (mY (fun x m=>g x (by simp [m])) l)
theorem Sy {c c':Cx} {ρ d:List RE} {f:Nat->Nat} {H:AH}:∀ {b:List AV} {e:List Value},(∀ a ∈ b,∀ v,Rd c ρ a v->Rd c' d ((a.vw H).mN f) v)->hQ (Rd c ρ) b e->hQ (Rd c' d) (Te f (IM H b)) e
 | [],_,_,h=>by cases h; exact .nil
 | a :: r,_,g,h=>by cases h with | cons k l=>exact .cons (g a aa _ k) (Sy (fun x m=>g x (by simp [m])) l)
theorem FT {c c':Cx} {ρ b:List RE} {f:Nat->Nat} {H:AH}:∀ {g:List n8} {d:List Value},(∀ t ∈ g,∀ a ∈ t.cells,∀ v,Rd c ρ a v->Rd c' b ((a.vw H).mN f) v)->hQ (dJ c ρ) g d->hQ (dJ c' b) (jF f (Lp H g)) d
 | [],_,_,h=>by cases h; exact .nil
 | t :: r,_,k,h=>by
  cases h with
  | cons e m=>
   refine .cons ?_ (FT (fun x n=>k x (by simp [n])) m);cases t with
   | c a=>exact k (.c a) aa a (by simp [n8.cells]) _ e
   | agg l=>obtain ⟨d,rfl,e⟩:=e; exact ⟨d,rfl,Sy (k (.agg l) aa) e⟩
theorem lE {i:Nat}:∀ {l:List AV} {a:AV},a ∈ l->i ∈ a.ids->i ∈ ym l
 | b :: r,a,h,c=>by
  simp [ym];rcases u2.1 h with rfl | h
  ·grind
  exact .inr (lE h c)
theorem uW {i:Nat}:∀ {l:List (Int × AV)} {q:Int × AV},q ∈ l->i ∈ q.2.ids->i ∈ Vq l
 | b :: r,q,h,c=>by
  simp [Vq];rcases u2.1 h with rfl | h
  ·grind
  exact .inr (uW h c)
theorem nN {H:AH}:∀ {l:List Nat},qC H l=true↔∀ i ∈ l,∃ t s b,l4 H i = .row t s b
 | []=>by simp [qC]
 | i :: r=>by
  simp [qC,nN];grind
theorem sO {f:Nat->Nat}:∀ l:List (Int × AV),VA f l=l.map fun q=>(q.1,q.2.mN f)
 | []=>rfl
 | (k,a) :: r=>by simp [VA,sO r]
theorem l_ {i:Nat}:∀ {l:List n8} {t:n8} {a:AV},t ∈ l->a ∈ t.cells->i ∈ a.ids->i ∈ rR l
 | b :: r,t,a,h,c,d=>by
  simp [rR];rcases u2.1 h with rfl | h
  ·exact .inl (lE c d)
  exact .inr (l_ h c d)
def Eh {H:AH} (h:a ∈ t.cells):a.vw H ∈ (t.vw H).cells:=by
 cases t with
 | c b=>simp [n8.cells] at h; subst h; simp [n8.vw,n8.cells]
 | agg l=>
  simp [n8.cells] at h;simp [n8.vw,n8.cells];induction l with
  | nil=>simp at h
  | cons b r d=>
   rcases u2.1 h with rfl | h
   ·simp [IM]
   simp [IM]; exact .inr (d h)
theorem yG {H:AH}:∀ {l:List n8} {t:n8},t ∈ l->t.vw H ∈ Lp H l
 | b :: r,t,h=>by
  rcases u2.1 h with rfl | h
  ·simp [Lp]
  simp [Lp]; exact .inr (yG h)
theorem Ck {i:Nat}:∀ {l:List AV} {a:AV},a ∈ l->(a = .own i\/∃ o k,a = .sub i o k)->i ∈ fy l
 | b :: r,a,h,c=>by
  rcases u2.1 h with rfl | h
  ·rcases c with rfl | ⟨o,k,rfl⟩ <;> simp [fy]
  have:=Ck h c;cases b <;> simp [fy,this]
theorem uO {i:Nat}:∀ {l:List n8} {t:n8} {a:AV},t ∈ l->a ∈ t.cells->(a = .own i\/∃ o k,a = .sub i o k)->i ∈ gr l
 | b :: r,t,a,h,c,d=>by
  simp [gr];rcases u2.1 h with rfl | h
  ·exact .inl (Ck c d)
  exact .inr (uO h c d)
def RW {b:Sh} (h:a.no b=true):WB 5 b a=true:=by cases a <;> first | rfl | exact h
theorem CR {H:AH}:∀ {σ:List Nat} {j i:Nat},σ[j]? = some i->(lY H σ)[j]? = some (l4 H i)
 | k :: r,0,i,h=>by simp at h; subst h; simp [lY]
 | k :: r,j+1,i,h=>by simpa [lY] using CR (σ:=r) (by simpa using h)
theorem sa {f:Nat->Nat}:∀ {l:List AO} {j:Nat} {o:AO},l[j]? = some o->(qB f l)[j]? = some (o.mN f)
 | k :: r,0,i,h=>by simp at h; subst h; simp [qB]
 | k :: r,j+1,i,h=>by simpa [qB] using sa (l:=r) (by simpa using h)
theorem mE {f:Nat->Nat}:∀ {l:List AO},(qB f l).length=l.length
 | []=>rfl
 | _ :: r=>by simp [qB,mE]
theorem wI {H:AH}:∀ {σ:List Nat},(lY H σ).length=σ.length
 | []=>rfl
 | _ :: r=>by simp [lY,wI]
section
variable {G:Gl} {ρ:List RE} {H:AH} {w:World} {σ:List Nat}
def oh.sub (C:oh G ρ H w) {Z':Nat->Prop} (hn:lT σ=true) (hc:iC H σ σ=true) (hZ:∀ b,Z' b->b<w.heap.size) (J:∀ b,¬ G.Z b->¬ live ρ b->¬ Z' b) (K:∀ b,live (dL ρ σ) b->¬ Z' b) :
  oh ⟨G.shp,G.B0,Z'⟩ (dL ρ σ) (qB (posOf · σ) (lY H σ)) w/\(cx G ρ w).le (cx ⟨G.shp,G.B0,Z'⟩ (dL ρ σ) w):=by
 have c:(cx G ρ w).le (cx ⟨G.shp,G.B0,Z'⟩ (dL ρ σ) w):=⟨rfl,rfl,fun b F=>⟨⟨F.1,fun hl=>F.2.1 (hU hl),J b F.2.2 F.2.1⟩,rfl⟩,fun _ _ _=>rfl⟩;have L:=ju.1 hc;refine ⟨⟨df (by simp [mE,wI,dL]) fun j o r Y y=>?_,fun i j r r' g u p B I=>?_,fun i r g u p=>?_,hZ,C.b0,C.tb.c8 c⟩,c⟩
 ·have N:j<σ.length:=by
   have:=(r3.1 y).1;simpa [dL] using this
  have D:σ[j]? = some σ[j]:=p6 N;have z:σ[j] ∈ σ:=I1 _;rw [pQ D] at y;cases y;rw [sa (CR (H:=H) D)] at Y;cases Y;obtain ⟨O,m⟩:=L _ z;have hH:H[σ[j]]? = some H[σ[j]]:=p6 O;have hO:l4 H σ[j]=H[σ[j]]:=by unfold l4; rw [ts,hH]; rfl
  obtain ⟨r,y,k⟩:=C.at_ hH;rw [getD_some y,hO];rw [hO] at m;generalize H[σ[j]]=o at k m;cases o with
  | gone=>exact k
  | q7 s f=>
   obtain ⟨g,rfl,h⟩:=k;exact ⟨g,rfl,h.c8 c rfl⟩
  | loc=>trivial
  | p7 l=>
   obtain ⟨g,rfl,h⟩:=k;refine ⟨g,rfl,h.map (g0:=fun a=>a.mN (posOf · σ)) (sO l) (fun q hq v h=>Rd.mN (fun _ P=>P.c8 c) (fun s x o e=>?_) (fun _ _ _ _ h=>h.le c) (fun i z r y _=>iY (m i (uW hq z)) y) h) rfl⟩;rw [e] at h ⊢;obtain ⟨A,d,Q,T,U,e⟩:=h;exact ⟨A,d,(c.S _ Q).1,T,U.c8 c,e⟩
  | y9 t s n xs=>
   obtain ⟨g,V,rfl,u,p,B⟩:=k;exact ⟨g,V,rfl,u,p.c8 c,B⟩
  | box t cs=>
   obtain ⟨g,V,rfl,u,p⟩:=k;refine ⟨g,V,rfl,u,pb (fun a ha v h=>Rd.mN (fun _ P=>P.c8 c) (fun s x o e=>?_) (fun _ _ _ _ h=>h.le c) (fun i z r y _=>iY (m i (lE ha z)) y) h) p⟩;subst e;obtain ⟨A,d,Q,T,U,e⟩:=h;exact ⟨A,d,(c.S _ Q).1,T,U.c8 c,e⟩
  | row t s xs=>
   obtain ⟨u,p,B⟩:=k;exact ⟨u,p,B.imp id fun ⟨g,W,d,sp,e,I,h5,h6⟩=>⟨g,W,d,sp,e,I,h5.c8 c,h6⟩⟩
 ·have X:=fX u (by rintro rfl; cases B);have e2:=fX p (by rintro rfl; cases I);have:=C.inj _ _ _ _ g X e2 B I;have z:i<σ.length:=by simpa [dL] using (r3.1 u).1
  have N:j<σ.length:=by simpa [dL] using (r3.1 p).1
  have a1:σ.getD i 0=σ[i]:=by rw [ts,p6 z]; rfl
  have a2:σ.getD j 0=σ[j]:=by rw [ts,p6 N]; rfl
  rw [a1,a2] at this;exact (List.getElem_inj (kQ.1 hn)).1 this
 have X:=fX u (by rintro rfl; cases p);have:=C.sr _ _ g X p;exact ⟨this.1,this.2.1,K g ⟨i,r,u,p⟩⟩
end
section
variable {P:Program} {G:Gl} {O:ck} {n:Nat} {F:Fr} {w:World} {ρ:List RE} {H:AH}
def xm (hO:ay P G.shp O) (hR:oh G ρ H w) {f:Nat} {args:List n8} {vs:List Value} {r:PR} (X:hQ (dJ (cx G ρ w) ρ) args vs) (h:HP O H f args=some r) (hob:∀ p ∈ r.ob,p) :
  (∃ fn,P.funcs[f]? = some fn/\(fn.name == "runtime.NumGoroutine")=false/\fn.body.isNone=false)/\kI P f vs.toArray w fun v N=>Kp [] w N /\ Rt (cx G ρ N) ρ r.v v/\∀ p ∈ r.fc,p:=by
 unfold HP at h;generalize hσ:tI H (Lp H args)=σ at h;simp only at h;split at h
 ·rename_i hck;simp at hck;obtain ⟨⟨⟨⟨hn,hai⟩,hcl⟩,hno⟩,hrw⟩:=hck;split at h
  ·rename_i pre rs kp hrs;split at h
   ·rename_i hsh;cases h;have hai:=kn.1 hai;have hno:=nR.1 hno;let L:Nat->Prop:=fun b=>∃ id ∈ gr args,∃ rr,ρ[id]? = some rr/\rr.g? = some b
    let Z':Nat->Prop:=fun b=>G.Z b\/(live ρ b/\¬ live (dL ρ σ) b/\¬ L b)
    have Y:∀ b,L b->¬ live (dL ρ σ) b:=by
     rintro b ⟨id,D,rr,C,Q⟩ ⟨j,r2,y,U⟩;have e:=fX y (by rintro rfl; cases U);have e2:=hR.inj _ _ _ _ b C e Q U;have hj:j<σ.length:=by simpa [dL] using (r3.1 y).1
     have a1:σ.getD j 0=σ[j]:=by rw [ts,p6 hj]; rfl
     exact hno id D (by rw [e2,a1]; exact I1 _)
    obtain ⟨hR',n⟩:=hR.sub (σ:=σ) (Z':=Z') hn hcl (fun b W=>W.elim (hR.z b) fun ⟨⟨i,r,C,Q⟩,_⟩=>(hR.sr i r b C Q).2.1) (fun b C Q hz=>hz.elim C fun y=>Q y.1)
     (fun b C hz=>hz.elim (fun Q=>by obtain ⟨i,r,y,U⟩:=hU C; exact (hR.sr i r b y U).2.2 Q) fun Q=>Q.2.1 C)
    obtain ⟨hfn,hrun⟩:=hO _ _ _ _ hrs hob;refine ⟨hfn,?_⟩;have hargs:hQ (dJ (cx ⟨G.shp,G.B0,Z'⟩ (dL ρ σ) w) (dL ρ σ)) (jF (posOf · σ) (Lp H args)) vs:=by
     refine FT (fun t ht a ha v hv=>?_) X;have hids:∀ i ∈ (a.vw H).ids,i ∈ σ:=fun i hi=>hai i (l_ (yG ht) (Eh ha) hi);by_cases F:∃ id,a = .own id\/∃ o k,a = .sub id o k
     ·obtain ⟨id,D⟩:=F;have hmem:=uO ht ha D;cases hv2:a.vw H with
      | fz s xs=>
       refine lV (oI hR n rfl hv (fun g d len z ⟨id',he,C⟩=>?_) hv2);have e:id' = id:=by rcases D with rfl | ⟨o,k,rfl⟩ <;> rcases he with he | ⟨_,_,he⟩ <;> cases he <;> rfl
       subst e;have V:L g:=⟨id',hmem,_,C,rfl⟩;have W:=hR.sr _ _ g C rfl;exact ⟨W.2.1,Y g V,fun hz=>hz.elim W.2.2 fun Q=>Q.2.2 V⟩
      | dead=>exact Rd.one hv
      | _=>
       rcases D with rfl | ⟨o,k,rfl⟩ <;> simp [AV.vw] at hv2 <;> split at hv2 <;> cases hv2
     have e:a.vw H=a:=by
      cases a <;> first | rfl | exact absurd ⟨_,.inl rfl⟩ F | exact absurd ⟨_,.inr ⟨_,_,rfl⟩⟩ F
     rw [e] at hids ⊢;refine Rd.mN (fun _ hp=>hp.c8 n) (fun s x o e=>?_) (fun _ _ _ _ h=>h.le n) (fun i hi r hr _=>iY (hids i hi) hr) hv;subst e;obtain ⟨A,K,k1,k2,k3,e⟩:=hv;exact ⟨A,K,(n.S _ k1).1,k2,k3.c8 n,e⟩
    refine (hrun ⟨G.shp,G.B0,Z'⟩ _ w vs rfl hR' hargs).mono fun v N ⟨J,hv,hk,hrs'⟩=>?_;refine ⟨hk,?_,Yh.qp hrs'⟩;have hback:hQ (dJ (cx G ρ N) ρ) (jF (fun j=>σ.getD j 0) rs) J:=by
     refine mY (fun t ht a ha u hu=>?_) hrs';have hno5:∀ b ∈ fU H (gr args),a.no b=true:=fun b W=>zH.1 (gG.1 hsh b W) t ht a ha;have hS:∀ b,(cx ⟨G.shp,G.B0,Z'⟩ (dL ρ σ) N).S b->(cx G ρ N).S b\/(¬ b<G.B0/\∃ sb ∈ fU H (gr args),∃ cur t fr,N.heap[b]? = some (.cells cur t fr)/\G.shp t=some sb):=by
      rintro b ⟨C,Q,y⟩;by_cases V:live ρ b
      ·right;have hlt:L b:=by
        by_cases hx:L b
        ·exact hx
        exact absurd (.inr ⟨V,Q,hx⟩) y
       obtain ⟨id,D,rr,U,h5⟩:=hlt;have W:=hR.sr _ _ b U h5;refine ⟨az,?_⟩;have hlen:id<H.length:=by
        have:=(r3.1 U).1;rw [hR.obj.length]; exact this
       obtain ⟨r',hr',I⟩:=hR.at_ (p6 hlen);rw [U] at hr';cases hr';have hO:l4 H id=H[id]:=by unfold l4; rw [ts,p6 hlen]; rfl
       cases ho:H[id] with
       | gone=>rw [ho] at I; cases I; cases h5
       | box t cs=>
        exfalso;have:∀ (l:List n8) (J:List Value),hQ (dJ (cx G ρ w) ρ) l J->id ∈ gr l->∃ g d len z,ρ[id]? = some (.row g d len z)\/ρ[id]? = some .emp:=by
         intro l J V;induction V with
         | nil=>intro h; simp [gr] at h
         | @cons t u l J C _ ih=>
          intro h;simp [gr,y2] at h;rcases h with h | h
          ·obtain ⟨us',T,m⟩:=dJ.cells C;clear C T;generalize t.cells=q at h m;induction m with
           | nil=>simp [fy] at h
           | @cons a' v' _ _ y _ B=>
            cases a' <;> simp [fy,u2] at h;case own j=>
             rcases h with rfl | h
             ·rcases y with ⟨g,d,len,z,y,_⟩ | ⟨y,_⟩
              ·exact ⟨g,d,len,z,.inl y⟩
              exact ⟨0,0,0,0,.inr y⟩
             exact B h
            case sub j o k=>
             rcases h with rfl | h
             ·rcases y with ⟨g,d,len,z,y,_⟩ | ⟨y,_⟩
              ·exact ⟨g,d,len,z,.inl y⟩
              exact ⟨0,0,0,0,.inr y⟩
             exact B h
            all_goals exact B h
          exact ih h
        obtain ⟨g,d,len,z,h6⟩:=this _ _ X D;rw [ho] at I;obtain ⟨g',vs',rfl,_⟩:=I;rcases h6 with h6 | h6 <;> rw [U] at h6 <;> cases h6
       | q7 s0 f0=>
        exfalso;have:∀ (l:List n8) (J:List Value),hQ (dJ (cx G ρ w) ρ) l J->id ∈ gr l->∃ g d len z,ρ[id]? = some (.row g d len z)\/ρ[id]? = some .emp:=by
         intro l J V;induction V with
         | nil=>intro h; simp [gr] at h
         | @cons t u l J C _ ih=>
          intro h;simp [gr,y2] at h;rcases h with h | h
          ·obtain ⟨us',T,m⟩:=dJ.cells C;clear C T;generalize t.cells=q at h m;induction m with
           | nil=>simp [fy] at h
           | @cons a' v' _ _ y _ B=>
            cases a' <;> simp [fy,u2] at h;case own j=>
             rcases h with rfl | h
             ·rcases y with ⟨g,d,len,z,y,_⟩ | ⟨y,_⟩
              ·exact ⟨g,d,len,z,.inl y⟩
              exact ⟨0,0,0,0,.inr y⟩
             exact B h
            case sub j o k=>
             rcases h with rfl | h
             ·rcases y with ⟨g,d,len,z,y,_⟩ | ⟨y,_⟩
              ·exact ⟨g,d,len,z,.inl y⟩
              exact ⟨0,0,0,0,.inr y⟩
             exact B h
            all_goals exact B h
          exact ih h
        obtain ⟨g,d,len,z,h6⟩:=this _ _ X D;rw [ho] at I;obtain ⟨g',rfl,_⟩:=I;rcases h6 with h6 | h6 <;> rw [U] at h6 <;> cases h6
       | loc=>
        have:=nN.1 hrw id D;obtain ⟨t,s,xs,e⟩:=this;rw [hO,ho] at e; cases e
       | p7 l0=>
        exfalso;have:∀ (l:List n8) (J:List Value),hQ (dJ (cx G ρ w) ρ) l J->id ∈ gr l->∃ g d len z,ρ[id]? = some (.row g d len z)\/ρ[id]? = some .emp:=by
         intro l J V;induction V with
         | nil=>intro h; simp [gr] at h
         | @cons t u l J C _ ih=>
          intro h;simp [gr,y2] at h;rcases h with h | h
          ·obtain ⟨us',T,m⟩:=dJ.cells C;clear C T;generalize t.cells=q at h m;induction m with
           | nil=>simp [fy] at h
           | @cons a' v' _ _ y _ B=>
            cases a' <;> simp [fy,u2] at h;case own j=>
             rcases h with rfl | h
             ·rcases y with ⟨g,d,len,z,y,_⟩ | ⟨y,_⟩
              ·exact ⟨g,d,len,z,.inl y⟩
              exact ⟨0,0,0,0,.inr y⟩
             exact B h
            case sub j o k=>
             rcases h with rfl | h
             ·rcases y with ⟨g,d,len,z,y,_⟩ | ⟨y,_⟩
              ·exact ⟨g,d,len,z,.inl y⟩
              exact ⟨0,0,0,0,.inr y⟩
             exact B h
            all_goals exact B h
          exact ih h
        obtain ⟨g,d,len,z,h6⟩:=this _ _ X D;rw [ho] at I;obtain ⟨g',rfl,_⟩:=I;rcases h6 with h6 | h6 <;> rw [U] at h6 <;> cases h6
       | y9 t0 s0 n0 xs0=>
        exfalso;have:∀ (l:List n8) (J:List Value),hQ (dJ (cx G ρ w) ρ) l J->id ∈ gr l->∃ g d len z,ρ[id]? = some (.row g d len z)\/ρ[id]? = some .emp:=by
         intro l J V;induction V with
         | nil=>intro h; simp [gr] at h
         | @cons t u l J C _ ih=>
          intro h;simp [gr,y2] at h;rcases h with h | h
          ·obtain ⟨us',T,m⟩:=dJ.cells C;clear C T;generalize t.cells=q at h m;induction m with
           | nil=>simp [fy] at h
           | @cons a' v' _ _ y _ B=>
            cases a' <;> simp [fy,u2] at h;case own j=>
             rcases h with rfl | h
             ·rcases y with ⟨g,d,len,z,y,_⟩ | ⟨y,_⟩
              ·exact ⟨g,d,len,z,.inl y⟩
              exact ⟨0,0,0,0,.inr y⟩
             exact B h
            case sub j o k=>
             rcases h with rfl | h
             ·rcases y with ⟨g,d,len,z,y,_⟩ | ⟨y,_⟩
              ·exact ⟨g,d,len,z,.inl y⟩
              exact ⟨0,0,0,0,.inr y⟩
             exact B h
            all_goals exact B h
          exact ih h
        obtain ⟨g,d,len,z,h6⟩:=this _ _ X D;rw [ho] at I;obtain ⟨g',vs',rfl,_⟩:=I;rcases h6 with h6 | h6 <;> rw [U] at h6 <;> cases h6
       | row t s xs=>
        rw [ho] at I hO;obtain ⟨h6,_,h7⟩:=I;refine ⟨s,qR hO D,?_⟩;rcases h7 with ⟨rfl,_⟩ | ⟨g,d,K,sp,rfl,h8,_⟩
        ·cases h5
        cases h5;exact ⟨_,t,(0,0),(hk.block _ W.2.1 aa).trans h8,h6⟩
      left; exact ⟨C,V,fun hz=>y (.inl hz)⟩
     have hpd:∀ {b:AV} {u:Value},Pd (cx ⟨G.shp,G.B0,Z'⟩ (dL ρ σ) N) b u->(∀ sb ∈ fU H (gr args),WB 5 sb b=true)->Pd (cx G ρ N) b u:=fun W hn=>Pd.NB (c:=cx ⟨G.shp,G.B0,Z'⟩ (dL ρ σ) N) (c':=cx G ρ N) (fU H (gr args)) rfl rfl rfl hS W 5 hn;refine Rd.mN (fun _ hp=>hpd hp fun sb hsb=>RW (hno5 sb hsb)) (fun s x o e=>?_) (fun k cs J e h=>h.unl (c:=cx ⟨G.shp,G.B0,Z'⟩ (dL ρ σ) N) (c':=cx G ρ N) rfl rfl rfl hS fun sb hsb=>e ▸ hno5 sb hsb) (fun i hi r hr hne=>fX hr hne) hu;subst e
     have hnil:fU H (gr args)=[]:=by
      cases hq:fU H (gr args) with
      | nil=>rfl
      | cons b l=>have:=hno5 b (by rw [hq]; simp); simp [AV.no] at this
     rw [hnil] at hS;have hS':(cx ⟨G.shp,G.B0,Z'⟩ (dL ρ σ) N).le (cx G ρ N):=⟨rfl,rfl,fun b W=>⟨(hS b W).resolve_right fun ⟨_,sb,h,_⟩=>by simp at h,rfl⟩,fun _ _ _=>rfl⟩;obtain ⟨A,K,k1,k2,k3,e⟩:=hu;exact ⟨A,K,(hS'.S _ k1).1,k2,k3.c8 hS',e⟩
    subst hv;show Rt (cx G ρ N) ρ (K_ (jF (fun j=>σ.getD j 0) rs)) (BW J);generalize jF (fun j=>σ.getD j 0) rs=rs' at hback ⊢;cases hback with
    | nil=>exact ⟨[],rfl,.nil⟩
    | @cons t u l J C Q=>
     cases Q with
     | nil=>exact C
     | cons y U=>exact ⟨_,rfl,.cons C (.cons y U)⟩
   cases h
  cases h
 cases h
end
def Yields (P:Program) (n:Nat) (F:Fr) (w:World) (b:Op) (c:TypeId) (d:Value->World->Prop):Prop:=
 (∃ v e,aL P n F w b c v e /\ d v e)\/(∃ f args,Enters P n F w b c f args/\kI P f args w d)
def Yields.mono {P:Program} {n:Nat} {F:Fr} {w:World} {e:Op} {g:TypeId} {k l:Value->World->Prop} (h:Yields P n F w e g k) (m:∀ v b,k v b -> l v b):Yields P n F w e g l:=by
 rcases h with ⟨v,b,c,d⟩ | ⟨f,args,c,d⟩
 ·exact .inl ⟨v,b,c,m _ _ d⟩
 exact .inr ⟨f,args,c,d.mono m⟩
section
variable {P:Program} {n:Nat} {fr:Fr} {w:World} {x y:Operand} {ty t t' e:TypeId}
theorem R.Nu {v:Value} {c:Cx} {d:List UInt8} (D:c.w=w) (F:ev fr x=some v) (p:P.underlying t=some (.slice e)) (q:P.underlying t' = some .string) (s:P.underlying e=some (.int .u8)) (h:G2 c .u8 d v) :
  aL P n fr w (.convert t t' x) ty (⟨d⟩:o3).val w:=fun _ _ _ _ _ G=>by
 obtain ⟨a,k,f,rfl,u,z,L,B⟩:=h.ex;have o:f=d.map fun b=>Value.int .u8 (b.toNat:Int):=by
  have:∀ (l:List UInt8) (m:List Value),p0 c (l.flatMap (cellsOf .u8)) m->m=l.map fun b=>Value.int .u8 (b.toNat:Int):=by
   intro l;induction l with
   | nil=>intro m h; cases h; rfl
   | cons b l H=>
    intro m h;cases h with
    | cons u z=>cases u; rw [H _ z]; rfl
  grind
 have g:(convert t t' (.slice a d.length k)).run P w = .ok (.string ⟨d.toArray⟩) w:=by
  cases a with
  | none=>
   have I:d=[]:=by
    grind
   subst I;rw [run_convert_bytes_string w t t' e none _ k p s q]; rfl
  | some A=>
   refine run_convert_bytes_back w t t' e A k d p s q fun j J=>?_;rcases B with B | ⟨N,K,_,C⟩
   ·grind
   cases K;rw [o,D] at C;exact C j _ (by simp [J])
 simp [execOp,G.ev F,g,o3.val]
def R.Qa {s:o3} (p:ev fr x=some s.val) (q:s.b.length<=140737488355328) (B:P.underlying t=some .string) (D:P.underlying t' = some (.slice e)) (F:P.underlying e=some (.int .u8)) :
  ∃ a k f,aL P n fr w (.convert t t' x) ty (.slice a s.b.length k) f /\ Kp [] w f /\ s.b.length<=k/\k<=maxLen/\a=some ⟨w.heap.size,0,none⟩/\w.heap.size<f.heap.size/\ie f ⟨w.heap.size,0,none⟩ (s.b.map fun b=>Value.int .u8 (b.toNat:Int))/\∃ C G,f.heap[w.heap.size]? = some (.cells C e G):=by
 have c:=run_bytes_of_string w t t' e ⟨s.b.toArray⟩ B D F;have g:(⟨s.b.toArray⟩:ByteArray).size=s.b.length:=by simp [ByteArray.size]
 have h:=grownCap_ge w (⟨s.b.toArray⟩:ByteArray).size 0 e;have l:=grownCap_le_maxLen w (⟨s.b.toArray⟩:ByteArray).size 0 e (by rw [g]; simp [maxLen]; omega);generalize u:grownCap w (⟨s.b.toArray⟩:ByteArray).size 0 e=cap at *;generalize H:bytesRow ⟨s.b.toArray⟩ cap=C at c;have d:(w.drew.alloc (.cells C e (C.size,C.size+1))).heap[w.heap.size]? = some (.cells C e (C.size,C.size+1)):=J6 w.drew _;refine ⟨some ⟨w.heap.size,0,none⟩,cap,w.drew.alloc (.cells C e (C.size,C.size+1)),fun a _ _ _ _ I=>?_,?_,h,l,rfl,aa,fun j v z=>?_,C,_,d⟩
 ·rw [g] at c;simp [o3.val] at p;simp [execOp,I.ev p,c]
 ·have:=Kp.alloc w.drew (.cells C e (C.size,C.size+1));exact ⟨this.os,this.tape,this.output,this.size,this.block⟩
 rw [add_lit,x7,cell_of_row _ w.heap.size j C _ _ d];subst H;simp at z;obtain ⟨b,m,rfl⟩:=z;have A:j<s.b.length:=(r3.1 m).1;rw [p6 A] at m;have o:=B1 m;simp [bytesRow,A,Array.getElem?_append,o]
def pf (s:o3):(⟨s.b.toArray⟩:ByteArray).size=s.b.length:=by simp [ByteArray.size]
variable {k:IntKind} {z:Operand}
def R.apr {s:o3} (c:ev fr x=some s.val) (g:ev fr z=some (.int k (i:Int))) (d:P.underlying t=some .string) (l:i<=s.b.length):aL P n fr w (.slice t x (some z) none none) ty (⟨s.b.drop i⟩:o3).val w:=fun _ _ _ _ _ f=>by
 have h:=run_sliceAt_string (P:=P) w t (.string ⟨s.b.toArray⟩) (some (.int k (i:Int))) none none d;have:=run_slice_string_l (P:=P) w t ⟨s.b.toArray⟩ d k (i:Int) az (by rw [pf]; omega);have e:s.cut i s.b.length=⟨s.b.drop i⟩:=by simp [o3.cut,<- length_drop]
 rw [<- e,<- o3.yI s i s.b.length];rw [pf,G5] at this;simp [o3.val] at c;simp [execOp,f.ev c,f.ev g,h,this]
def R.ahX {s:o3} {c:IntKind} {g:Operand} (h:ev fr x=some s.val) (m:ev fr z=some (.int k (i:Int))) (d:ev fr g = some (.int c (j:Int))) (l:P.underlying t=some .string) (o:i<=j) (q:j<=s.b.length):aL P n fr w (.slice t x (some z) (some g) none) ty (⟨(s.b.drop i).take (j - i)⟩:o3).val w:=fun _ _ _ _ _ f=>by
 have p:=run_sliceAt_string (P:=P) w t (.string ⟨s.b.toArray⟩) (some (.int k (i:Int))) (some (.int c (j:Int))) none l;have:=run_slice_string (P:=P) w t ⟨s.b.toArray⟩ k c (i:Int) (j:Int) l az az (by rw [pf]; omega);have e:(⟨(s.b.drop i).take (j - i)⟩:o3)=s.cut i j:=rfl;rw [e,<- o3.yI s i j];simp [o3.val] at h;simp [execOp,f.ev h,f.ev m,f.ev d,p,this]
def R.ai1 {s:o3} (c:ev fr x=some s.val) (d:ev fr z=some (.int k (j:Int))) (f:P.underlying t=some .string) (g:j<=s.b.length):aL P n fr w (.slice t x none (some z) none) ty (⟨s.b.take j⟩:o3).val w:=by
 have:=R.anC (P:=P) (n:=n) (w:=w) (ty:=ty) c d f g;have e:s.cut 0 j=⟨s.b.take j⟩:=by simp [o3.cut]
 rwa [e] at this
def R.ah9 {s:o3} (c:ev fr x=some s.val) (f:ev fr y=some (.int k (i:Int))) (g:P.underlying t=some .string) (h:i<s.b.length):aL P n fr w (.index t x y) ty (.int .u8 ((s.b.getD i 0).toNat:Int)) w:=fun _ _ _ _ _ d=>by
 have:=run_index_string (P:=P) w t ⟨s.b.toArray⟩ k (i:Int) g;rw [dif_pos ⟨az,by rw [pf]; omega⟩] at this;simp [o3.val] at c;have e:((⟨s.b.toArray⟩:ByteArray)[(i:Int).toNat]'(by simp [ByteArray.size]; omega))=s.b.getD i 0:=by
  rw [ts,p6 h];simp [ByteArray.getElem_eq_getElem_data]
 rw [e] at this;simp [execOp,d.ev c,d.ev f,this]
end
section
variable {P:Program} {T:List (Nat × TI)} {G:Gl} {n:Nat} {F:Fr} {w:World} {x y:Operand} {ty t t':TypeId} {ρ:List RE} {H:AH}
def Fu (hT:bz P G.shp T) {s:Sh} (h:N1 T t=some s):∃ e,P.underlying t=some (.slice e)/\G.shp e=some s/\(∃ z:List Value,(P.info? e).map (fun i=>(i.zero.map Value.cells,i.size,i.bytes))=some (some z.toArray,s.size,s.bytes)/\EA (cellsOf s (c5 s)) z=true)/\(P.info? e).map (·.size)=some s.size/\(s = .u8->P.underlying e=some (.int .u8)/\(P.info? e).bind (·.zero)=some (.int .u8 0)):=by
 unfold N1 at h;split at h
 ·rename_i e p sz z d;subst h;obtain ⟨f,g⟩:=(hT _ _ d).2;obtain ⟨k,⟨l,b,m⟩,o⟩:=g s rfl;refine ⟨e,f,k,⟨l,b,m⟩,?_,o⟩;cases c:P.info? e with
  | none=>simp [c] at b
  | some i=>simp [c] at b ⊢; exact b.2.1
 cases h
def ql {b:AV} {i:Int} {v:Value} {c:Cx} (h:b.ix=some i) (d:Rd c ρ b v):∃ k,v = .int k i:=by
 cases b <;> simp [AV.ix] at h <;> cases h
 ·cases d with | int=>exact ⟨_,rfl⟩
 ·cases d with | u8=>exact ⟨_,rfl⟩
 cases d with | u64=>exact ⟨_,rfl⟩
theorem Tb {c:Cx} {s:Sh} {b:List (l5 s)} {v:Value} {x:l5 s} (h:Pd c (.fz s b) v) (f:b[i]? = some x):∃ A k,v = .slice (some A) b.length k/\i<b.length/\Rd c ρ (.fe s x 0) (.pointer (some (A.add (i*s.size))))/\∃ l,p0 c (cellsOf s x) l:=by
 have m:i<b.length:=(r3.1 f).1;cases h with
 | fz q u z o g=>
  rcases g with g | ⟨A,rfl,d,p⟩
  ·grind
  have e:=(o.drop (i*s.size)).take s.size;rw [pt f] at e;refine ⟨A,_,rfl,m,⟨A.add (i*s.size),_,by rw [gI]; exact d.1,(p.shift _).take _,e,by rw [xi]⟩,_,e⟩
def oO {s:Sh} {b:List (l5 s)} (h:i<b.length):b[i]? = some (b.getD i (c5 s)):=by
 rw [ts,p6 h]; rfl
theorem KG {a:Option Addr} {c s:Nat} {f:Sh} {e:List (l5 f)} {b:List Value} (p:i<=c) {A:Addr} (l:a=some A) (d:ie c'.w A b) (g:c'.at f A.block) (k:p0 c' (e.flatMap (cellsOf f)) ((b.drop (i*s)).take (e.length*s))) (m:e.length<=c - i) (q:c<=maxLen) (o:e.length*f.bytes<=140737488355328) :
  Pd c' (.fz f e) (.slice (if c=i then a else a.map (·.add (i*s))) e.length (c - i)):=by
 refine .fz m az o k ?_;by_cases h:c=i
 ·simp_all
 right;rw [dc h,l];exact ⟨A.add (i*s),rfl,by rw [gI]; exact g,(d.shift _).take _⟩
variable {r:PR} {va:Value}
theorem Mb (hT:bz P G.shp T) (Q:oh G ρ H w) {c:Sh} {i:Int} {k:IntKind} (S:N1 T t=some c) (h:tH H c a i=some r) (b:∀ p ∈ r.ob,p) (I:Rd (cx G ρ w) ρ a va) (J:ev F x=some va) (K:ev F y=some (.int k i)) :
  ∃ v,aL P n F w (.indexAddr t x y) ty v w/\Rt (cx G ρ w) ρ r.v v/\∀ p ∈ r.fc,p:=by
 obtain ⟨e,L,_,_,f,_⟩:=Fu hT S;cases a with
 | fz s l=>
  simp [tH] at h;split at h
  ·rename_i m;cases h;have o:c = s:=zc m;subst o;have q:=b _ (z6); have U:=b _ (w8 _ (u3 _));obtain ⟨j,rfl⟩:=x6 q;have d:j<l.length:=by omega
   obtain ⟨A,X,rfl,_,u,Y,z⟩:=Tb (ρ:=ρ) I (oO d);exact ⟨_,R.kR J K L f rfl d,u,z.qp⟩
  cases h
 | own id=>
  simp [tH] at h;split at h
  ·rename_i Z s l V;split at h
   ·rename_i m;cases h;have o:c = s:=zc m;subst o;have q:=b _ (z6); have U:=b _ (w8 _ (u3 _));obtain ⟨j,rfl⟩:=x6 q;have d:j<l.length:=by omega
    rcases cc Q V with ⟨_,rfl⟩ | ⟨g,B,C,sp,N,h3,W,h5⟩
    ·simp at d
    rcases I with ⟨_,_,_,_,D,rfl⟩ | ⟨D,_⟩
    ·rw [N] at D; cases D;have:=R.kR (P:=P) (n:=n) (w:=w) (ty:=ty) J K L f rfl d;rw [add_lit,x7] at this;have O:=(W.drop (j*c.size)).take c.size;rw [pt (oO d)] at O;exact ⟨_,this,⟨g,B,l.length,c.size,N,d,rfl⟩,O.qp⟩
    grind
   cases h
  cases h
 | _=>simp [tH] at h
def KQ (hT:bz P G.shp T) {c:Cx} {l h:Option Int} {S U:Option Operand} (d:lO T t a l h=some r) (b:∀ p ∈ r.ob,p) (Z:Rd c ρ a va) (J:ev F x=some va)
  (N:∀ i,l=some i->∃ z,S=some z/\ev F z=some (.int .i64 i)) (K:l=none->S=none) (O:∀ i,h=some i->∃ z,U=some z/\ev F z=some (.int .i64 i)) (L:h=none->U=none) :
  ∃ v,aL P n F w (.slice t x S U none) ty v w/\Rt c ρ r.v v/\r.fc=[]:=by
 cases a with
 | fz s xs=>
  simp [lO] at d;split at d
  ·rename_i q y;split at d
   ·rename_i H;have e1:q = s:=zc H;subst e1;obtain ⟨e,u,_,_,B,_⟩:=Fu hT y;cases Z with
    | @fz _ _ a k cells h1 h2 h3 Q V=>
    have m:∀ (i:Nat) (C:List (l5 q)),i<=xs.length->C.length<=xs.length - i->p0 c (C.flatMap (cellsOf q)) ((cells.drop (i*q.size)).take (C.length*q.size))->Pd c (.fz q C) (.slice (if k=i then a else a.map (·.add (i*q.size))) C.length (k - i)):=by
     intro i C W hy hp;rcases V with V | ⟨A,rfl,X,hc⟩
     ·subst V;have h00:([]:List (l5 q)).length=0:=rfl;have:C=[]:=B7 az;subst this;exact .fz (xs:=([]:List (l5 q))) (cells:=[]) aa az aa .nil (.inl rfl)
     exact KG az rfl hc X hp az h2 (qh h3 az)
    have Y:cells.length=xs.length*q.size:=by rw [<- Q.length,cz]
    split at d
    ·-- from l
     rename_i i;cases d;obtain ⟨z,rfl,o⟩:=N _ rfl;obtain rfl:=L rfl;have g:=b _ (z6); have D:=b _ (w8 _ (u3 _));obtain ⟨i,rfl⟩:=x6 g;have W:i<=xs.length:=by omega
     have:=m i (xs.drop i) W aa (by
      rw [length_drop,r6 (by rw [length_drop,Y,Nat.sub_mul]; omega)];exact cC Q i)
     rw [length_drop] at this;exact ⟨_,R.dN J o u B rfl W,this,rfl⟩
    ·rename_i j;cases d;obtain ⟨z,rfl,o⟩:=O _ rfl;obtain rfl:=K rfl;have g:=b _ (z6); have D:=b _ (w8 _ (u3 _));obtain ⟨j,rfl⟩:=x6 g;have hj:j<=xs.length:=by omega
     have f:(xs.take j).length=j:=by simp; omega
     have:=m 0 (xs.take j) az (by simp; omega) (by
      rw [f,O6,T1];exact bU Q j)
     rw [f] at this;exact ⟨_,R.mc J o u B rfl az,this,rfl⟩
    ·rename_i i j;cases d;obtain ⟨z,rfl,o⟩:=N _ rfl;obtain ⟨z',rfl,I⟩:=O _ rfl;have g:=b _ (z6); have D:=b _ (w8 _ (z6)); have g2:=b _ (w8 _ (w8 _ (u3 _)));obtain ⟨i,rfl⟩:=x6 g;obtain ⟨j,rfl⟩:=x6 (M4 g D);have f:((xs.drop i).take (j - i)).length=j - i:=by simp; omega
     have:=m i ((xs.drop i).take (j - i)) az (by simp; omega) (by
      rw [f];exact bU (cC Q i) (j - i))
     rw [f] at this;exact ⟨_,R.IN J o I u B rfl az az,this,rfl⟩
    cases d
   cases d
  cases d
 | str s=>
  simp [lO] at d;split at d
  ·rename_i sz z hf;have u:P.underlying t=some .string:=(hT _ _ hf).2;cases Z with
   | str y=>
   split at d
   ·cases d;obtain ⟨z,rfl,o⟩:=N _ rfl;obtain rfl:=L rfl;have g:=b _ (z6); have D:=b _ (w8 _ (u3 _));obtain ⟨i,rfl⟩:=x6 g;exact ⟨_,R.apr J o u az,Pd.str (by simp; omega),rfl⟩
   ·cases d;obtain ⟨z,rfl,o⟩:=O _ rfl;obtain rfl:=K rfl;have g:=b _ (z6); have D:=b _ (w8 _ (u3 _));obtain ⟨i,rfl⟩:=x6 g;exact ⟨_,R.ai1 J o u az,Pd.str (by simp; omega),rfl⟩
   ·cases d;obtain ⟨z,rfl,o⟩:=N _ rfl;obtain ⟨z',rfl,I⟩:=O _ rfl;have g:=b _ (z6); have D:=b _ (w8 _ (z6)); have g2:=b _ (w8 _ (w8 _ (u3 _)));obtain ⟨i,rfl⟩:=x6 g;obtain ⟨j,rfl⟩:=x6 (M4 g D);exact ⟨_,R.ahX J o I u az az,Pd.str (by simp; omega),rfl⟩
   cases d
  cases d
 | _=>simp [lO] at d
theorem VL (hT:bz P G.shp T) (J:oh G ρ H w) {m:Int} (h:adm T H t a=some m) (l:Rd (cx G ρ w) ρ a va) (d:ev F x=some va):aL P n F w (.call { callee:=.builtin .len,args:=#[x],argTypes:=#[t] }) ty (.int .i64 m) w/\a7 m:=by
 have f:∀ k:Nat,k<=maxLen->a7 (k:Int):=fun k S=>by simp [maxLen] at S; exact ⟨az,az⟩
 unfold adm at h;split at h
 ·rename_i s K e B sz z c;cases h;cases l with
  | fz p q N U V=>exact ⟨R.len d (hT _ _ c).2.1,f _ (z7 p q)⟩
 ·rename_i s sz z c;cases h;cases l with
  | str W=>exact ⟨R.anw d (hT _ _ c).2,⟨az,az⟩⟩
 ·rename_i b e B sz z c;cases h;cases l with
  | em W=>exact ⟨R.len d (hT _ _ c).2.1,⟨az,az⟩⟩
 ·rename_i id e B sz z c;split at h
  ·rename_i X s K C;cases h;rcases cc J C with ⟨D,rfl⟩ | ⟨g,I,o,Y,q,N,U,V,u,O⟩
   ·rcases l with ⟨_,_,_,_,u,_⟩ | ⟨_,a,rfl⟩
    ·rw [D] at u; cases u
    exact ⟨R.len d (hT _ _ c).2.1,⟨aa,aa⟩⟩
   rcases l with ⟨_,_,_,_,v,rfl⟩ | ⟨v,_⟩
   ·rw [q] at v; cases v;exact ⟨R.len d (hT _ _ c).2.1,f _ (z7 u O)⟩
   rw [q] at v; cases v
  cases h
 ·rename_i id Z len e B sz z c;split at h
  ·rename_i X s K C;cases h;rcases l with ⟨g,I,L,j,p,q,rfl⟩ | ⟨_,_,rfl,a,rfl⟩
   ·refine ⟨R.len d (hT _ _ c).2.1,?_⟩;rcases cc J C with ⟨D,_⟩ | ⟨r,Q,o,Y,N,_,_,_,u,O⟩
    ·rw [D] at p; cases p
    grind
   exact ⟨R.len d (hT _ _ c).2.1,⟨aa,aa⟩⟩
  cases h
 ·rename_i y e B sz z c;cases h;obtain ⟨us,p,A,rfl,q,_⟩:=l;have i:=p.length;rw [i];exact ⟨R.len d (hT _ _ c).2.1,⟨az,az⟩⟩
 cases h
end
end Go.Proofs.YticbaadnibdbkaaGreat
namespace Go.Proofs.YticbaadnibdbkaaGreat
open Go.RowKit
open Go.MapKept (IsKey run_checkKey run_findKey run_setObj_map heap_set heap_alloc run_keyThatStays)
theorem qS {k:Int}:∀ {l:List MapEntry} {i:Nat},(∀ e ∈ l,∃ k,e.key = .int .i64 k) ->
  (∃ j e,l[j]? = some e/\e.key = .int .i64 k/\Instr.findNow (.int .i64) (.int .i64 k) l i=some (some (i+j,e.val))/\getM k l=some e.val /\
   ∀ v q,getM q (l.modify j fun e=>{ e with key:=.int .i64 k,val:=v })=if q=k then some v else getM q l) \/
  (Instr.findNow (.int .i64) (.int .i64 k) l i=some none/\getM k l=none/\∀ v q b,getM q (l++[{ key:=.int .i64 k,val:=v,born:=b }])=if q=k then some v else getM q l)
 | [],i,_=>.inr ⟨rfl,rfl,fun v q b=>by
   by_cases a:q=k
   ·subst a; simp [getM,qg]
   have:¬ (k=q):=fun h=>a h.symm;simp [getM,qg,a,this]⟩
 | e :: l,i,h=>by
  obtain ⟨g,c⟩:=h e aa;have t:=fun x u=>h x (w8 _ u);by_cases m:k=g
  ·subst m;refine .inl ⟨0,e,rfl,c,?_,?_,fun v q=>?_⟩
   ·simp [Instr.findNow,c,Instr.sameNow]
   ·simp [getM,qg,c]
   by_cases a:q=k
   ·subst a; simp [getM,qg]
   have d:¬ (k=q):=fun h=>a h.symm;simp [getM,qg,c,a,d]
  have s:(k == g)=false:=by simpa using m
  have f:¬ (g=k):=fun h=>m h.symm;rcases qS (k:=k) (i:=i+1) t with ⟨j,w,n,o,p,r,y⟩ | ⟨n,o,p⟩
  ·refine .inl ⟨j+1,w,n,o,?_,?_,fun v q=>?_⟩
   ·simp [Instr.findNow,c,Instr.sameNow,s,p]; omega
   ·simp [getM,qg,c,f,r]
   by_cases a:q=g
   ·subst a;simp [getM,qg,c,f]
   have d:¬ (g=q):=fun h=>a h.symm;have:=y v q;simp [getM,qg,c,d];grind
  refine .inr ⟨?_,?_,fun v q b=>?_⟩
  ·simp [Instr.findNow,c,Instr.sameNow,s,n]
  ·simp [getM,qg,c,f,o]
  by_cases a:q=g
  ·subst a;simp [getM,qg,c,f]
  have d:¬ (g=q):=fun h=>a h.symm;have:=p v q b;simp [getM,qg,c,d];simpa using this
section
variable {P:Program} {n:Nat} {F:Fr} {w:World} {x y z':Operand} {t ty kt et:TypeId} {g c:Nat} {k:Int} {a:Array MapEntry}
theorem R.sk {z:Value} (ok:Bool) (p:ev F x=some (.map (some g))) (q:ev F y=some (.int .i64 k)) (r:P.underlying t=some (.map kt et)) (d:P.underlying kt=some (.int .i64)) (f:(P.info? et).bind (·.zero)=some z) (m:w.heap[g]? = some (.map a c)) (s:∀ e ∈ a.toList,∃ k,e.key = .int .i64 k) :
  aL P n F w (.lookup t x y ok) ty (if ok then .tuple #[(getM k a.toList).getD z,.bool (getM k a.toList).isSome] else (getM k a.toList).getD z) w:=fun v _ _ _ _ o=>by
 have b:IsKey (.int .i64) (.int .i64 k):=rfl;have A:(zeroValue et).run P w = .ok z w:=by
  cases h:P.info? et with
  | none=>simp [h] at f
  | some i=>simp [h] at f; simp [zeroValue,typeInfo,h,f]
 have e:(Instr.lookup t (.map (some g)) (.int .i64 k) ok).run P w = .ok (if ok then .tuple #[(getM k a.toList).getD z,.bool (getM k a.toList).isSome] else (getM k a.toList).getD z) w:=by
  unfold Instr.lookup;simp only [Q7,A5 r];rcases qS (k:=k) (i:=0) s with ⟨j,B,_,_,l,u,_⟩ | ⟨l,u,_⟩
  ·simp [O2 m,run_checkKey d b,run_findKey d l];grind
  simp [O2 m,Result.andThen,run_checkKey d b,run_findKey d l];grind
 simp [execOp,o.ev p,o.ev q,e]
def R.tE:aL P n F w (.makeMap t none) ty (.map (some w.heap.size)) (w.alloc (.map #[] 0)):=fun a _ _ _ _ b=>by
 simp [execOp,Instr.makeMap]
theorem VT {v:Value} (B:ev F x=some (.map (some g))) (C:ev F y=some (.int .i64 k)) (D:ev F z' = some v) (G:P.underlying t=some (.map kt et)) (s:P.underlying kt=some (.int .i64)) (p:w.heap[g]? = some (.map a c)) (H:∀ e ∈ a.toList,∃ k,e.key = .int .i64 k) :
  ∃ d b f,(ji P n F w (.insert t x y z') ty d /\ ji P n F w (.mapUpdate t x y z') ty d)/\Kp [g] w d /\ d.heap[g]? = some (.map b f)/\(∀ e ∈ b.toList,∃ k,e.key = .int .i64 k)/\∀ q,getM q b.toList=if q=k then some v else getM q a.toList:=by
 have l:IsKey (.int .i64) (.int .i64 k):=rfl;have r:∀ b f,(Instr.mapUpdate t (.map (some g)) (.int .i64 k) v).run P w = .ok () { w with heap:=w.heap.setIfInBounds g (.map b f) }->(∀ e ∈ b.toList,∃ k,e.key = .int .i64 k)->(∀ q,getM q b.toList=if q=k then some v else getM q a.toList) ->
   ∃ d b f,(ji P n F w (.insert t x y z') ty d /\ ji P n F w (.mapUpdate t x y z') ty d)/\Kp [g] w d /\ d.heap[g]? = some (.map b f)/\(∀ e ∈ b.toList,∃ k,e.key = .int .i64 k)/\∀ q,getM q b.toList=if q=k then some v else getM q a.toList:=by
  intro b f e o I;have J:=heap_set (o':=.map b f) p;refine ⟨{ w with heap:=w.heap.setIfInBounds g (.map b f) },b,f,⟨fun u _ _ _ _ m=>?_,fun u _ _ _ _ m=>?_⟩,⟨rfl,rfl,rfl,aa,fun i Q K=>J.2 i (by simpa using K)⟩,by simpa using J.1,o,I⟩
  ·simp [execOp,m.ev B,m.ev C,m.ev D,e]
  simp [execOp,m.ev B,m.ev C,m.ev D,e]
 rcases qS (k:=k) (i:=0) H with ⟨j,L,N,O,o,_,I⟩ | ⟨o,_,S⟩
 ·have z:a[j]? = some L:=by simpa using N
  refine r (a.modify j fun e=>{ e with key:=.int .i64 k,val:=v }) c ?_ ?_ ?_
  ·rw [x7] at o;simp [Instr.mapUpdate,A5 G,O2 p,run_checkKey s l,run_findKey s o,z,O,run_keyThatStays l,run_setObj_map _ p,Result.andThen]
  ·intro e A;rcases MapFrom.mem_modify A with h | ⟨T,_,rfl⟩
   ·exact H e h
   grind
  grind
 refine r (a.push { key:=.int .i64 k,val:=v,born:=c }) (c+1) ?_ ?_ ?_
 ·simp [Instr.mapUpdate,A5 G,O2 p,run_checkKey s l,run_findKey s o,run_setObj_map _ p,Result.andThen]
 ·grind
 grind
end
section
variable {c:Cx} {ρ:List RE} {s:Sh} {x:l5 s} {v:Value}
def TE {s:Sh} (h:s.qw=false) (x:l5 s):∃ a,cellsOf s x=[a]:=by
 cases s <;> first | exact ⟨_,rfl⟩ | cases h
def V1.rt (h:V1 c s x v):dJ c ρ (UI s x) v:=by
 obtain ⟨f,b,⟨d,rfl⟩ | ⟨d,rfl⟩⟩:=h
 ·simp [UI,d]; exact ⟨f,rfl,iv b⟩
 obtain ⟨a,e⟩:=TE d x;simp [UI,d,e];rw [e] at b;cases b with | cons b _=>exact lV b
def V1.zero {z:Value} {a:List Value} (b:EA (cellsOf s (c5 s)) a=true) (h:(s.qw=true/\z = .agg a.toArray)\/(s.qw=false/\a=[z])):V1 c s (c5 s) z:=
 ⟨a,ku (ρ:=[]) (ri s _) (kx b),h⟩
end
end Go.Proofs.YticbaadnibdbkaaGreat
namespace Go.Proofs.YticbaadnibdbkaaGreat
open Go.RowKit
def kZ:Value->Lit
 | .int k n=>.int k n
 | .bool b=>.bool b
 | .string s=>.string s.data.toList
 | _=>.bool false
def ag6 (k:LK) (v:Value):Prop:=match k,v with
 | .i q,.int a n=>a = q/\(Lit.int q n).wf=true
 | .b,.bool _=>True
 | .s,.string s=>s.size<=maxLen
 | _,_=>False
def lq:List LK->List Value->Prop
 | [],[]=>True
 | k :: r,v :: l=>ag6 k v/\lq r l
 | _,_=>False
theorem lq.len:∀ {a:List LK} {b:List Value},lq a b->b.length=a.length
 | [],[],_=>rfl
 | _ :: _,_ :: _,h=>by rw [y4,y4,lq.len h.2]
def lq.split:∀ {ks l:List LK} {a:List Value},lq (ks++l) a->lq ks (a.take ks.length)/\lq l (a.drop ks.length)
 | [],_,_,h=>⟨trivial,h⟩
 | _ :: ks,l,_ :: a,h=>by
  obtain ⟨b,c⟩:=lq.split (ks:=ks) h.2;exact ⟨⟨h.1,b⟩,c⟩
section
variable {P:Program}
theorem xT {g:TypeId->Option (List LK)} {d:Nat} (e:∀ t a b,g t=some a->lq a b->P.keyLits d t b=some (b.map kZ)) {cs:List Value}:∀ {F:List Go.Field} {o:Nat} {a:List LK},Wi P g F o=some a->lq a (cs.drop o) ->
  (F.mapM fun f=>P.keyLits d f.type ((cs.drop f.offset).take (P.cellsOf f.type))).map List.flatten=some ((cs.drop o).map kZ)/\(∀ f ∈ F,(f.name != "_")=true)
 | [],o,a,h,k=>by
  cases h;have:cs.drop o=[]:=by
   have n:=lq.len k;grind
  grind
 | f :: F,o,a,h,k=>by
  simp [Wi] at h;split at h
  ·rename_i p i;split at h
   ·rename_i l j m;cases h;simp at j;obtain ⟨q,c⟩:=lq.split k;rw [I6] at c;obtain ⟨r,s⟩:=xT e m c;refine ⟨?_,fun x u=>?_⟩
    ·grind [Option.map_eq_some_iff,flatten_cons,List.drop_drop,List.take_append_drop]
    grind
   cases h
  cases h
theorem qG:∀ (d:Nat) (t:TypeId) (f:List LK) (a:List Value),Tf P d t=some f->lq f a->P.keyLits d t a=some (a.map kZ)
 | 0,_,_,_,h,_=>by cases h
 | d+1,t,f,a,h,k=>by
  unfold Tf at h;unfold Program.keyLits;split at h
  ·rename_i q c;cases h;match a,k with
   | [.int u n],⟨⟨g,m⟩,_⟩=>subst g; simp [c,m,kZ]
  ·rename_i c;cases h;match a,k with
   | [.bool b],_=>simp [c,kZ]
  ·rename_i c;cases h;match a,k with
   | [.string s],⟨g,_⟩=>
    have g:s.size<=maxLen:=g;simp [c,kZ,g]
  ·rename_i F c;split at h
   ·rename_i l p;split at h
    ·rename_i j;cases h;have j:=zc j;have i:=lq.len k;obtain ⟨v,w⟩:=xT (fun t f a=>qG d t f a) (cs:=a) (o:=0) p (by simpa using k);have r:F.all (·.name != "_")=true:=by grind
     have x:a.length=P.cellsOf t/\F.all (·.name != "_")=true:=⟨by rw [i,j],r⟩;rw [c];split
     ·rename_i e; cases e
     ·rename_i e; cases e
     ·rename_i e; cases e
     ·rename_i e; cases e
     ·grind
     grind
    cases h
   cases h
  cases h
theorem oq {c:Cx} {j:List RE}:∀ {d:List AV} {i:List Value} {f:List LK},M6 d=some f->hQ (Rd c j) d i->lq f i
 | [],_,_,h,k=>by cases h; cases k; trivial
 | a :: r,_,f,h,k=>by
  cases k with
  | cons e m=>
   simp [M6] at h;split at h
   ·rename_i q l n o;cases h;refine ⟨?_,oq o m⟩;cases a <;> cases n
    ·cases e with | int g=>exact ⟨rfl,by unfold a7 at g; simp [Lit.wf,IntKind.min,IntKind.bits,IntKind.signed]; omega⟩
    ·rename_i b;have:=b.toNat_lt;cases e with | u8=>exact ⟨rfl,by simp [Lit.wf,IntKind.min,IntKind.max,IntKind.bits,IntKind.signed]; omega⟩
    ·cases e with | u64 g=>exact ⟨rfl,by simp [Lit.wf,IntKind.min,IntKind.max,IntKind.bits,IntKind.signed]; omega⟩
    ·cases e with | bool=>trivial
    cases e with | str g=>exact (by simp [ag6,o3.val,maxLen,ByteArray.size]; omega)
   cases h
variable {ρ:List RE}
def AD {c:Cx} {a b:AV} {u v:Value} {e:BE} (h:VZ a b=some e) (d:Rd c ρ a u) (f:Rd c ρ b v):e.val=true↔kZ u=kZ v:=by
 unfold VZ at h;split at h <;> cases h
 ·cases d; cases f; simp [BE.val,kZ]
 ·cases d; cases f; simp [BE.val,kZ]
 ·cases d; cases f; simp [BE.val,kZ]
 ·cases d; cases f; simp [BE.val,kZ]
 rename_i s g;cases d; cases f;cases s; cases g;simp [BE.val,kZ,o3.val]
theorem uI {c:Cx} {ρ:List RE}:∀ {j n:List AV} {o p:List Value} {e:BE},MQ j n=some e->hQ (Rd c ρ) j o->hQ (Rd c ρ) n p->(e.val=true↔o.map kZ=p.map kZ)
 | [],[],_,_,_,h,k,m=>by cases h; cases k; cases m; simp [BE.val]
 | [a],[b],_,_,_,h,k,m=>by
  cases k with | cons d f=>cases f; cases m with | cons g i=>cases i; simpa using AD h d g
 | [a],b :: q :: l,_,_,_,h,_,_=>by
  simp only [MQ] at h;grind
 | a :: s :: r,[b],_,_,_,h,_,_=>by
  simp only [MQ] at h;grind
 | a :: s :: r,b :: q :: l,_,_,_,h,k,m=>by
  simp [MQ] at h;split at h
  ·rename_i x y t u;cases h;cases k with | cons d f=>
   cases m with | cons g i=>
   have v:=AD t d g;have w:=uI u f i;simp [BE.val,v,w]
  cases h
variable {t:TypeId} {w:World}
theorem Kz {a:List LK} {b c:List Value} (h:V8 P t a=true) (e:lq a b) (f:lq a c) (j:∃ F,P.underlying t=some (.struct F)) :
  P.eqGuardType P.depth t=false/\∃ r:Bool,(Op.equalIn 10000 t (.agg b.toArray) (.agg c.toArray)).run P w = .ok r w/\(r=true↔b.map kZ=c.map kZ):=by
 simp [V8] at h;obtain ⟨⟨d,k⟩,l⟩:=h;obtain ⟨F,g⟩:=j;have i:P.cellsOf t=a.length:=by
  unfold Tf at d;grind
 refine ⟨l,?_⟩;have:=run_equalIn_deep (P:=P) 9992 8 t k w 8 8 (.agg b.toArray) (.agg c.toArray) (b.map kZ) (c.map kZ)
  (by simp [Value.formed,g,i,e.len]) (by simp [Value.formed,g,i,f.len])
  (by simpa [Value.cells] using qG 8 t a b d e) (by simpa [Value.cells] using qG 8 t a c d f)
 exact this
def Ws {T:List (Nat × TI)} {G:Gl} {n:Nat} {F:Fr} {x y:Operand} {ty t':TypeId} {c:Cx} (hT:bz P G.shp T) {u:BinOp} {f A:List AV} {r:PR} {B C:List Value} (h:eqG T u t f A=some r) (m:hQ (Rd c ρ) f B) (o:hQ (Rd c ρ) A C) (D:ev F x=some (.agg B.toArray)) (H:ev F y=some (.agg C.toArray)) :
  ∃ v,aL P n F w (.binOp u t x y t') ty v w/\Rt c ρ r.v v/\r.fc=[]:=by
 unfold eqG at h;split at h
 ·rename_i O sz z L;obtain ⟨I,J,_,_,hE,_⟩:=(hT _ _ L).2;split at h
  ·rename_i k Q S N g i;have K:=hE _ N;split at h
   ·rename_i e j p;simp at j;obtain ⟨rfl,rfl⟩:=j;cases h;obtain ⟨q,b,a,d⟩:=Kz (w:=w) K (oq g m) (oq i o) ⟨I,J⟩;have s:b=e.val:=E2.2 (d.trans (uI p m o).symm);subst s;refine ⟨_,fun _ _ _ _ _ l=>?_,Pd.bool (e:=e),rfl⟩;simp [execOp,l.ev D,l.ev H,run_eqGuard_agg w .eql t x y _ _ q,run_eql_struct,a]
   ·rename_i e j p;simp at j;obtain ⟨rfl,rfl⟩:=j;cases h;obtain ⟨q,b,a,d⟩:=Kz (w:=w) K (oq g m) (oq i o) ⟨I,J⟩;have s:b=e.val:=E2.2 (d.trans (uI p m o).symm);subst s;refine ⟨_,fun _ _ _ _ _ l=>?_,Pd.bool (e:=.not e),rfl⟩;simp [execOp,l.ev D,l.ev H,run_eqGuard_agg w .neq t x y _ _ q,run_neq_struct,a,BE.val]
   cases h
  cases h
 cases h
end
section
variable {P:Program} {T:List (Nat × TI)} {G:Gl} {O:ck} {n:Nat} {F:Fr} {w:World} {x y:Operand} {ty t t':TypeId} {ρ:List RE} {H:AH}
variable {m:Nat}
theorem ef (h:m<18446744073709551616):IntKind.i64.wrap (m:Int)=de m:=by
 unfold de;simp [IntKind.wrap,IntKind.bits,IntKind.signed];grind
def RX (h:m<18446744073709551616):a7 (de m):=by
 unfold de a7; split <;> omega
variable {r:PR} {op:Op}
def y0 {v:Value} (h:aL P n F w op ty v w) (b:Rt (cx G ρ w) ρ r.v v) (c:∀ p ∈ r.fc,p):Yields P n F w op ty fun v a=>Kp [] w a /\ Rt (cx G ρ a) ρ r.v v/\∀ p ∈ r.fc,p:=
 .inl ⟨v,w,h,Kp.refl w,b,c⟩
def um (h:r.fc=[]):∀ p ∈ r.fc,p:=by rw [h]; simp
variable {u:AV} {va:Value} {b:TI}
theorem PK (hT:bz P G.shp T) (V:oh G ρ H w) {a:TI} (ht:bj T t=some a) (W:bj T t' = some b) (h:OW H a.k b.k u=some r) (K:∀ p ∈ r.ob,p) (j:Rd (cx G ρ w) ρ u va) (A:ev F x=some va) :
  Yields P n F w (.convert t t' x) ty fun v L=>Kp [] w L /\ Rt (cx G ρ L) ρ r.v v/\∀ p ∈ r.fc,p:=by
 have g:=(hT _ _ ht).2;have c:=(hT _ _ W).2;unfold OW at h;split at h
 ·rename_i D J m d f;rw [d] at g; rw [f] at c;cases h;cases j with | int o=>
  have:=R.conv (P:=P) (n:=n) (w:=w) (ty:=ty) A g c
  rw [o.wrap] at this;exact y0 this (Pd.int o) aa
 ·rename_i D J m d f;rw [d] at g; rw [f] at c;cases h;cases j with | u8=>
  have hm:=m.toNat_lt;exact y0 (R.ad1 A g c) (Pd.int ⟨az,az⟩) aa
 ·rename_i D J m d f;rw [d] at g; rw [f] at c;cases h;cases j with | u8=>
  have hm:=m.toNat_lt;exact y0 (R.P_ A g c az) (Pd.u64 az) aa
 ·rename_i D J m d f;rw [d] at g; rw [f] at c;cases h;cases j with | int o=>
  have X:=K _ (u3 _);obtain ⟨m,rfl⟩:=x6 X;exact y0 (R.af1 A g c) Pd.u8 aa
 ·rename_i D J m d f;rw [d] at g; rw [f] at c;cases h;cases j with | int o=>
  have X:=K _ (u3 _);obtain ⟨m,rfl⟩:=x6 X;have:m<18446744073709551616:=by have:=o.2; omega
  exact y0 (R.P_ A g c this) (Pd.u64 this) aa
 ·rename_i D J m d f;rw [d] at g; rw [f] at c;cases h;cases j with | u64 o=>
  exact y0 (R.af1 A g c) Pd.u8 aa
 ·rename_i D J m d f;rw [d] at g; rw [f] at c;cases h;cases j with | u64 o=>
  have:=R.conv (P:=P) (n:=n) (w:=w) (ty:=ty) A g c
  rw [ef o] at this;exact y0 this (Pd.int (RX o)) aa
 ·rename_i D J m d f;rw [d] at g; rw [f] at c;cases h;cases j with | u64 o=>
  exact y0 (R.P_ A g c o) (Pd.u64 o) aa
 ·rename_i D J e v1 d f;rw [d] at g; rw [f] at c;obtain ⟨N,Y⟩:=g;obtain ⟨_,_,U⟩:=Y .u8 rfl;split at h
  ·rename_i xs B;cases h;have I:=Jv V B j;refine y0 (R.Nu rfl A N c (U rfl).1 I) (Pd.str ?_) aa;have:=I.le;simp [Sh.bytes] at this;show xs.length<=_;omega
  ·rename_i b B;cases h;obtain ⟨q,j,B⟩:∃ q,Rd (cx G ρ w) ρ q va/\q.vw H = .em b:=⟨_,j,B⟩;cases q <;> simp [AV.vw] at B;case em=>
    have I:G2 (cx G ρ w) .u8 [] va:=Pd.aat (Pd.Ab j) fun b hb=>hb.1;exact y0 (R.Nu rfl A N c (U rfl).1 I) (Pd.str aa) aa
   case own=>split at B <;> cases B
   case sub=>split at B <;> cases B
   all_goals cases B
  cases h
 ·rename_i D e s d f;rw [d] at g; rw [f] at c;obtain ⟨Z,y⟩:=c;obtain ⟨Q,_,U⟩:=y .u8 rfl;cases h;cases j with | str O=>
  obtain ⟨a,k,L,S,hk,h1,h2,h3,h4,h5,C,fz,h6⟩:=R.Qa (P:=P) (n:=n) (fr:=F) (w:=w) (x:=x) (ty:=ty) (t:=t) (t':=t') (s:=s) A O g Z (U rfl).1;refine .inl ⟨_,L,S,hk,?_,aa⟩;have hp:p0 (cx G ρ L) (s.b.flatMap (cellsOf .u8)) (s.b.map fun b=>Value.int .u8 (b.toNat:Int)):=by
   generalize s.b=l;induction l with
   | nil=>exact .nil
   | cons b l ih=>exact .cons .u8 ih
  exact Pd.fz (s:=.u8) (xs:=s.b) h1 h2 (by simpa [Sh.bytes] using O) hp (.inr ⟨_,h3,⟨⟨h4,fun ⟨i,r,d,f⟩=>by have:=(V.sr i r _ d f).2.1; simp at this,fun hz=>by have:=V.z _ hz; simp at this⟩,.inr ⟨C,e,fz,h6,Q,(fun e=>nomatch e)⟩⟩,h5⟩)
 cases h
def Mc (d:Nat):∀ (e:List Value) (j:Nat) (a b:List Value),e.length<=b.length->a.length=d+j ->
  (e.zipIdx j).foldl (fun g (c:Value × Nat)=>g.setIfInBounds (d+c.2) c.1) (a++b).toArray=(a++e++b.drop e.length).toArray:=by
 intro e;induction e with
 | nil=>intro j a b _ _; simp
 | cons u e h=>
  intro j a b f i;cases b with
  | nil=>simp at f
  | cons k b=>
   simp only [List.zipIdx_cons,List.foldl_cons];have:((a++k :: b).toArray.setIfInBounds (d+j) u)=((a++[u])++b).toArray:=by simp [<- i]
   rw [this,h (j+1) (a++[u]) b (by simpa using f) (by simp; omega)];simp
theorem qA {c:Cx} {N:List (Nat × Nat)} {place:Nat->Option (Nat × Nat)} (s:∀ (i:Nat) (q:Nat × Nat),N[i]? = some q->place i=some q):∀ {f:List (Nat × n8)} {pv:List (Nat × Value)} {z:List AV} {d:List Value} {l:List AV},hQ (fun p q=>p.1=q.1/\dJ c ρ p.2 q.2) f pv->hQ (Rd c ρ) z d->mB N z f=some l ->
  ∃ g,Instr.fill place d.toArray pv=some (toArray g)/\hQ (Rd c ρ) l g
 | [],_,z,d,l,C,A,h=>by
  cases C;cases h;exact ⟨d,rfl,A⟩
 | (i,v) :: r,_,z,d,l,C,A,h=>by
  cases C with
  | @cons _ q _ Z S U=>
  obtain ⟨b,u⟩:=q;obtain ⟨e,V⟩:=S;simp only at e; subst e;simp [mB] at h;split at h
  ·rename_i o k D;split at h
   ·rename_i j;simp only [pe] at j;have m:v.cells.length=k:=r7 j.1;have n:=F4 j.2;obtain ⟨g,I,a⟩:=dJ.cells V;have B:v.cells.length=g.length:=a.length;have W:=A.length;have J:hQ (Rd c ρ) (D9 z o v.cells) (d.take o++g++d.drop (o+g.length)):=by
     unfold D9;rw [<- B];exact ((A.take o).append a).append (A.drop _)
    obtain ⟨K,X,Y⟩:=qA s U J h;refine ⟨K,?_,Y⟩;simp only [Instr.fill,s _ _ D,I];have L:(g.toArray.zipIdx.foldl (fun l (c:Value × Nat)=>l.setIfInBounds (o+c.2) c.1) d.toArray)=(d.take o++g++d.drop (o+g.length)).toArray:=by
     have Q:=Mc o g 0 (d.take o) (d.drop o) (by simp; omega) (by simp; omega);rw [D5,I6] at Q;rw [<- Q];simp
    rw [dc (by simp; omega)];refine Eq.trans ?_ X;congr 1
   cases h
  cases h
variable {parts:List (Nat × Operand)} {sz:Nat} {l:List (Nat × n8)} {z cs:List AV}
theorem LB (hT:bz P G.shp T) {c:Cx} {d:List (Nat × Nat)} {pv:List (Nat × Value)} (j:bj T t=some ⟨.st d,sz,z⟩) (k:RG F parts=some pv) (o:hQ (fun p q=>p.1=q.1/\dJ c ρ p.2 q.2) l pv) (h:mB d z l=some cs) :
  ∃ a,aL P n F w (.build t parts.toArray) ty (.agg (toArray a)) w/\hQ (Rd c ρ) cs a:=by
 obtain ⟨⟨s,A,e,f⟩,B,C,D,_⟩:=hT _ _ j;obtain ⟨a,I,v⟩:=qA (place:=(d.toArray[·]?)) (fun i q g=>by simpa using g) o (kx f) h;refine ⟨a,R.qn k ?_,v⟩;unfold Program.built;cases g:P.info? t with
 | none=>rw [g] at e; simp at e
 | some i=>
  simp only [G4] at e;grind
variable {e:TypeId}
def zO {s:Sh} (hT:bz P G.shp T) (h:O8 T e=some s):s.size=1/\(P.info? e).map (·.size)=some 1/\∃ d,P.underlying e=some d/\ly d=false:=by
 unfold O8 at h;split at h <;> cases h <;> rename_i a <;> obtain ⟨⟨c,_⟩,f⟩:=hT _ _ a <;> exact ⟨rfl,c,_,f,rfl⟩
theorem wU:∀ {n k i:Nat} {q:Nat × Nat},(nM k n)[i]? = some q->q=(k+i,1)
 | n+1,k,0,q,h=>by simp [nM] at h; exact h.symm
 | n+1,k,i+1,q,h=>by
  rw [nM,List.getElem?_cons_succ] at h;rw [wU h,show k+1+i=k+(i+1) by omega]
theorem uo (hT:bz P G.shp T) {c:Cx} {pv:List (Nat × Value)} (o:bj T t=some ⟨.ar m e,sz,z⟩) (a:(P.info? e).map (·.size)=some 1) (s:RG F parts=some pv) (v:hQ (fun p q=>p.1=q.1/\dJ c ρ p.2 q.2) l pv) (h:mB (nM 0 m) z l=some cs) :
  ∃ d,aL P n F w (.build t parts.toArray) ty (.agg (toArray d)) w/\hQ (Rd c ρ) cs d:=by
 obtain ⟨⟨A,C,f,g⟩,D⟩:=hT _ _ o;obtain ⟨d,I,B⟩:=qA (place:=fun i=>some (i*1,1)) (fun i q j=>by rw [wU j]; simp) v (kx g) h;refine ⟨d,R.qn s ?_,B⟩;unfold Program.built;cases j:P.info? t with
 | none=>rw [j] at f; simp at f
 | some i=>
  simp only [G4] at f;cases k:P.info? e with
  | none=>rw [k] at a; cases a
  | some J=>
   grind
theorem pq {c:Cx}:∀ {l:List n8} {q:List (Nat × Nat)} {j:List Value},mf l=some q->hQ (dJ c ρ) l j->hQ (eQ ρ) q j
 | [],_,_,h,d=>by cases h; cases d; exact .nil
 | .c (.ptr id o) :: r,q,_,h,d=>by
  simp [mf] at h;split at h
  ·rename_i l f;cases h;cases d with
   | cons g i=>exact .cons g (pq f i)
  cases h
 | .c a :: r,q,_,h,d=>by
  cases a with
  | ptr id o=>
   simp [mf] at h;split at h
   ·rename_i l f;cases h;cases d with
    | cons g i=>exact .cons g (pq f i)
   cases h
  | _=>simp [mf] at h
theorem zo {c:Cx}:∀ {q:List (Nat × Nat)} {a:List Value},hQ (eQ ρ) q a->hQ (dJ c ρ) (q.map fun q=>.c (.ptr q.1 q.2)) a
 | [],_,h=>by cases h; exact .nil
 | _ :: _,_,h=>by cases h with | cons d f=>exact .cons d (zo f)
variable {vs:List Value}
def E.Vd {f:FuncId} {d:Array TypeId} {a:Func} {i:List Operand} {b c:List Value} {fr:Fr} (k:ev fr x=some (.func (.func f) b.toArray c.toArray)) (g:Vz fr i=some vs) (o:P.funcs[f]? = some a) (p:(a.name == "runtime.NumGoroutine")=false) (q:a.body.isNone=false) :
  Enters P n fr w (.call { callee:=.value x,args:=i.toArray,argTypes:=d }) ty f (b++(vs++c)).toArray:=fun _ _ _ _ _ j=>by
 simp [execOp,resolve,j.ev k,Deferred.ofValue,invoke,callFunc,o,show ¬ a.name = "runtime.NumGoroutine" by simpa using p,show ¬ a.body=none by intro h; simp [h] at q,oe j g]
def mz {c:Cx} {fr:j9} (i:o9 c ρ fr F) {a:Call} {f:Nat} {l:List n8} (h:iX fr a=some (f,l)):∃ x s vs b d,a.callee = .value x/\a.args=toArray s/\ev F x=some (.func (.func f) (toArray b) (toArray d))/\Vz F s=some vs/\hQ (dJ c ρ) l (b++(vs++d)):=by
 unfold iX at h;split at h
 ·rename_i x A;split at h
  ·rename_i g b cs I j k;cases h;obtain ⟨v,o,J,B,C,D,rfl⟩:=aw i j;obtain ⟨vs,p,q⟩:=mQ i k;exact ⟨x,a.args.toList,vs,J,B,A,aa,o,p,(zo C).append (q.append (zo D))⟩
  ·rename_i K I j k;split at h
   ·rename_i g;cases h;obtain ⟨v,o,B,C,D,rfl⟩:=aw i j;obtain ⟨vs,p,q⟩:=mQ i k;exact ⟨x,a.args.toList,vs,[],[],A,aa,o,p,by simpa using q⟩
   cases h
  cases h
 cases h
theorem JF {s:Sh}:∀ {n k:Nat} {a:List (l5 s)},k+n=a.length->yK s a k n=(a.drop k).flatMap (cellsOf s)
 | 0,k,a,h=>by rw [List.drop_eq_nil_of_le az]; rfl
 | n+1,k,a,h=>by
  rw [yK,JF az,J2 (show k<a.length by omega),H5,ts,p6 az];rfl
theorem mb {c:Cx} {s:Sh}:∀ {cs:List AV} {d:List (l5 s)} {g:List Value},tU s cs=some d->hQ (Rd c ρ) cs g->p0 c (d.flatMap (cellsOf s)) g
 | [],_,_,h,f=>by cases h; cases f; exact .nil
 | a :: r,d,_,h,f=>by
  simp [tU] at h;split at h
  ·rename_i x l i j;cases h;cases f with
   | cons k o=>
    exact (aV (vs:=[_]) i (.cons (fun p=>(iZ p).1 k) .nil)).append (mb j o)
  cases h
variable {k:IntKind} {i:Nat}
def R.lC {cs:List Value} {v:Value} {d:TypeDesc} (h:ev F x=some (.agg cs.toArray)) (j:ev F y=some (.int k (i:Int))) (o:P.underlying t=some (.array m e)) (p:P.underlying e=some d) (s:ly d=false) (f:(P.info? e).map (·.size)=some 1) (A:i<m) (B:cs[i]? = some v) :
  aL P n F w (.index t x y) ty v w:=fun _ _ _ _ _ g=>by
 cases a:P.info? e with
 | none=>simp [a] at f
 | some q=>
  have c:q.size=1:=by simpa [a] using f
  have C:(Instr.index t (.agg cs.toArray) (.int k (i:Int))).run P w = .ok v w:=by
   unfold Instr.index;simp [asIntOf,A5 o,A,part,mJ p,s,sizeOf,typeInfo,a,c,B]
  simp [execOp,g.ev h,g.ev j,C]
def R.iL {g:Nat} (h:ev F x=some (.pointer (some ⟨g,0,none⟩))) (j:ev F y=some (.int k (i:Int))) (o:P.underlying t=some (.array m e)) (d:(P.info? e).map (·.size)=some 1) (s:i<m) :
  aL P n F w (.indexAddr t x y) ty (.pointer (some ⟨g,i,none⟩)) w:=fun _ _ _ _ _ f=>by
 cases a:P.info? e with
 | none=>simp [a] at d
 | some q=>
  have c:q.size=1:=by simpa [a] using d
  have p:(Addr.add ⟨g,0,none⟩ i)=⟨g,i,none⟩:=by rw [add_lit,x7]
  simp [execOp,f.ev h,f.ev j,Instr.indexAt,A5 o,asIntOf,Instr.sureAddr,sizeOf,typeInfo,a,c,p];omega
variable {a:AV}
theorem Vh {c:Cx} {s:Sh} {d:List (l5 s)} {o:Nat} (h:p0 c (d.flatMap (cellsOf s)) vs) (g:s.size=1) (j:o<d.length) (p:cellsOf s (d.getD o (c5 s))=[a]):∃ u,vs[o]? = some u/\Pd c a u:=by
 have f:=(h.drop (o*s.size)).take s.size;rw [pt (oO j),p,g,M1] at f;generalize v:List.take 1 (List.drop o vs)=q at f;cases f with
 | @cons _ u _ A B C=>
  have:=hC (·[0]?) v;grind
def rz (hT:bz P G.shp T) (W:oh G ρ H w) {v:Value} (h:Rd (cx G ρ w) ρ a v) (S:ev F x=some v) (c:sq T H t a=some r) (J:∀ p ∈ r.ob,p):∃ u,aL P n F w (.load t x) ty u w/\Rt (cx G ρ w) ρ r.v u/\∀ p ∈ r.fc,p:=by
 unfold sq at c;split at c
 ·rename_i id o;split at c
  ·rename_i ta s m xs X;obtain ⟨r0,Y,g,vs,rfl,Z,K,b,U⟩:=W.at_ (cq X aa);obtain ⟨g',C,rfl⟩:=h;rw [Y] at C; cases C;have L:vs.length=m:=by rw [<- K.length,cz,b,U,M1]
   have V:ie w ⟨g,0,none⟩ vs:=db (cells:=vs) (sp:=[]) (by rw [A3]; exact Z);split at c
   ·rename_i m' e sz z q;split at c
    ·rename_i j;cases c;simp only [pe] at j;have l:=r7 j.1.1.1;have y:=r7 j.1.1.2;have O:=r7 j.1.2;subst l; subst y;obtain ⟨⟨N,_⟩,f⟩:=hT _ _ q;refine ⟨.agg vs.toArray,R.abS S f rfl (by rw [N,L]; exact hC some O) V,⟨vs,rfl,?_⟩,aa⟩;rw [JF az,T1];exact iv K
    cases c
   ·rename_i ti _ q;split at c
    ·cases c
    ·cases c
    ·cases c
    ·rename_i a' hs1 A n1 n2 n3;simp [pr] at c;subst c;have ho:=J _ (u3 _);obtain ⟨u,hu,D⟩:=Vh K U az A;obtain ⟨_,f⟩:=hT _ _ q;have:∃ d,P.underlying t=some d/\ly d=false:=by
      cases B:ti.k <;> rw [B] at f;case i=>exact ⟨_,f,rfl⟩
      case bool=>exact ⟨_,f,rfl⟩
      case str=>exact ⟨_,f,rfl⟩
      case sl=>exact ⟨_,f.1,rfl⟩
      case st=>exact absurd B (n1 _)
      case ar=>exact absurd B (n2 _ _)
      case mp=>exact ⟨_,f.1,rfl⟩
      case U1=>exact ⟨_,f,rfl⟩
      case ms=>exact ⟨_,f.1,rfl⟩
      case mg=>exact ⟨_,f.1,rfl⟩
      case ptr=>obtain ⟨e,f⟩:=f; exact ⟨_,f,rfl⟩
      all_goals exact f
     obtain ⟨d,hd,Q⟩:=this;have I:=V o u hu;rw [add_lit,x7] at I;exact ⟨u,R.aaL S hd Q I,lV D,D.qp⟩
    cases c
   cases c
  cases c
 cases c
def afU {c:Cx} (h:B3 c) {e:H2} (d:e ∈ VV):Pd c (.fz e.s e.xs) (.slice (some ⟨e.g,0,none⟩) e.xs.length e.xs.length):=by
 obtain ⟨j,o,p,q,cells,t,fr,v,A⟩:=h.2 e d;refine .fz (sh _) p q A (.inr ⟨_,rfl,⟨j,.inl o⟩,?_⟩);exact db (cells:=cells) (sp:=[]) (t:=t) (f:=fr) (by rw [A3]; exact v)
theorem rD {g:Nat}:∀ {l:List H2} {e:H2},r_ g l=some e->e ∈ l/\e.g=g
 | a :: l,e,h=>by
  unfold r_ at h;cases c:Nat.beq g a.g
  ·rw [c,cond_false] at h;have:=rD h;grind
  simp_all
variable {i:Int}
def zk (hT:bz P G.shp T) (I:oh G ρ H w) (J:ev F y=some (.int k i)) (c:vC T t x i=some r) (f:∀ p ∈ r.ob,p):∃ u,aL P n F w (.indexAddr t x y) ty u w/\Rt (cx G ρ w) ρ r.v u/\∀ p ∈ r.fc,p:=by
 unfold vC at c;split at c
 ·rename_i g;split at c
  ·rename_i e m W sz z K q;split at c
   ·rename_i s B;split at c
    ·rename_i d;simp [pr] at c;subst c;simp only [pe,vo] at d;have L:=d.1;have X:=r7 d.2;have N:=f _ (z6); have Y:=f _ (w8 _ (u3 _));obtain ⟨j,rfl⟩:=x6 N;obtain ⟨Q,C⟩:=rD K;have S:j<e.xs.length:=by omega
     obtain ⟨A,Z,U,_,h,a,D⟩:=Tb (ρ:=ρ) (afU I.tb Q) (oO S);have o:=zO hT B;cases U;have V:Addr.add ⟨e.g,0,none⟩ (j*e.s.size)=⟨g,j,none⟩:=by rw [C,<- L,o.1,add_lit,x7,M1]
     rw [V] at h;refine ⟨_,R.iL (g:=g) (i:=j) (by rfl) J (hT _ _ q).2 o.2.1 az,?_,D.qp⟩;rw [G5];exact h
    cases c
   cases c
  cases c
 cases c
def D_ (hT:bz P G.shp T) (h:Bv T e=true):(P.info? e).map (·.size)=some 1/\((P.info? e).bind (·.zero)).map Value.cells=some [Value.pointer none].toArray:=by
 unfold Bv at h;split at h
 ·rename_i f;obtain ⟨⟨g,j,o,d⟩,_⟩:=hT _ _ f;refine ⟨g,o.trans (hC (fun l:List Value=>some l.toArray) ?_)⟩;cases j with
  | nil=>simp [EA] at d
  | cons v r=>
   cases r with
   | cons _ _=>simp [EA] at d
   | nil=>
    simp [EA] at d;have h:=aal (c:=⟨fun _=>none,0,fun _=>False,default⟩) (ρ:=[]) d;rw [h]
 cases h
def zn (hT:bz P G.shp T) {v:Value} (h:Rd (cx G ρ w) ρ a v) (J:ev F x=some v) (K:ev F y=some (.int k i)) (c:iL T H t a i=some r) (d:∀ p ∈ r.ob,p):∃ u,aL P n F w (.indexAddr t x y) ty u w/\Rt (cx G ρ w) ρ r.v u/\∀ p ∈ r.fc,p:=by
 unfold iL at c;split at c
 ·rename_i id m e sz z f;split at c
  ·rename_i Y s Z b l O D;split at c
   ·rename_i o;simp [pr] at c;subst c;simp only [pe] at o;have e2:=r7 o.1;have I:=d _ (z6); have S:=d _ (w8 _ (u3 _));obtain ⟨j,rfl⟩:=x6 I;obtain ⟨g,U,rfl⟩:=h;exact ⟨_,R.iL J K (hT _ _ f).2 (zO hT D).2.1 az,⟨g,U,by rw [G5]⟩,aa⟩
   cases c
  cases c
 ·rename_i cs e sz z f;split at c
  ·rename_i q V L;simp [pr] at c;subst c;have I:=d _ (z6); have S:=d _ (w8 _ (u3 _));obtain ⟨j,rfl⟩:=x6 I;rw [G5] at L;obtain ⟨us,B,A,rfl,c,W,X⟩:=h;have N:=B.length;obtain ⟨u,Q,C⟩:=eE B j q L;refine ⟨_,R.kR (s:=1) J K (hT _ _ f).2.1 (D_ hT V).1 rfl az,⟨[u],.cons C .nil,A.add (j*1),rfl,by rw [gI]; exact W,?_⟩,aa⟩;have:=(X.drop j).take 1;rw [J2 (r3.1 Q).1,(r3.1 Q).2] at this;rw [M1];simpa using this
  cases c
 cases c
def zg (hT:bz P G.shp T) {c:Cx} {v:Value} (h:dJ c ρ (.agg cs) v) (L:ev F x=some v) (N:ev F y=some (.int k i)) (f:lC T t cs i=some r) (q:∀ p ∈ r.ob,p):∃ u,aL P n F w (.index t x y) ty u w/\Rt c ρ r.v u/\∀ p ∈ r.fc,p:=by
 unfold lC at f;split at f
 ·rename_i m e sz z B;split at f
  ·rename_i s Q;split at f
   ·rename_i S C;split at f
    ·rename_i a g o;simp [pr] at f;subst f;have g:=r7 g;have U:=q _ (z6); have X:=q _ (w8 _ (u3 _));obtain ⟨j,rfl⟩:=x6 U;obtain ⟨vs,rfl,D⟩:=h;obtain ⟨I,J,d,V,K⟩:=zO hT Q;obtain ⟨u,W,A⟩:=Vh (mb C D) I (show j<S.length by omega) o;exact ⟨u,R.lC L N (hT _ _ B).2 V K J az W,lV A,A.qp⟩
    cases f
   cases f
  cases f
 cases f
theorem R.buildSlice {parts:List (Nat × Operand)} {pv:List (Nat × Value)} {vss:List (List Value)} {m s:Nat} {e:TypeId} {z:List Value} (v:P.underlying t=some (.slice e)) (A:(P.info? e).map (·.size)=some s)
  (D:((P.info? e).bind (·.zero)).map Value.cells=some z.toArray) (I:RG F parts=some pv) (J:pv.map (fun p=>(p.1,p.2.cells.toList))=(range' 0 vss.length).zip vss) (K:∀ vs ∈ vss,vs.length=s) (L:vss.length=m)
  (N:m*s<=16777216):aL P n F w (.buildSlice t m parts.toArray) ty (.slice (some ⟨w.heap.size,0,none⟩) m m) (w.alloc (.cells vss.flatten.toArray e)):=fun a _ _ _ _ Q=>by
 subst L;cases f:P.info? e with
 | none=>simp [f] at A
 | some i=>
  have B:i.size=s:=by simpa [f] using A
  cases g:i.zero with
  | none=>simp [f,g] at D
  | some d=>
   have c:(parts.toArray.map fun p=>(p.1,a.eval p.2))=pv.toArray:=by simp [<- zX Q I]
   have C:∀ h:List Value,h.length=vss.length*s->Instr.fill (fun i=>some (i*s,s)) h.toArray pv=some vss.flatten.toArray:=fun h o=>by
    simpa using uw s vss 0 [] h K aa o pv J
   by_cases q:vss.length*s=0
   ·have:=C [] (by simp [q]);simp [execOp,c,Instr.buildSlice,A5 v,sizeOf,typeInfo,f,B,q,Array.range_zero',this,newRow]
   have:=C ((range (vss.length*s)).map fun j=>d.cells[j % d.cells.size]!) aa;have S:(Array.range (vss.length*s)).map (fun j=>d.cells[j % d.cells.size]!)=((range (vss.length*s)).map fun j=>d.cells[j % d.cells.size]!).toArray:=by rw [<- List.toArray_range,List.map_toArray]
   simp only [execOp,Instr.buildSlice,Q7,A5 v,sizeOf,typeInfo,run_program,f,B,Result.andThen_ok,Sem.run_ite,dc (show ¬ vss.length*s > 2 ^ 24 by omega),Sem.run_pure,q,if_false,zeroValue,g,S];rw [show (Array.map (fun x=>(x.1,a.eval x.2)) parts.toArray).toList=pv by rw [c]];simp [this,newRow]
theorem Ed (op:BinOp) (t:TypeId) (x:Operand):eqGuard op t x (.const .nilIface) .nilIface .nilIface=pure ():=by cases op <;> cases x <;> rfl
theorem Cn (op:BinOp) (t:TypeId) (x y:Operand) (a:TypeId) (b:Value):eqGuard op t x y (.iface a b) .nilIface=pure ():=by cases op <;> rfl
theorem eval_nil (a:Act):a.eval (.const .nilIface) = .nilIface:=rfl
variable {X:Option TV}
def aeC (hT:bz P G.shp T) {c:Cx} {fr:j9} (B:o9 c ρ fr F) {op:BinOp} (C:dI fr x=X) (h:erA T op t X y=some r) (D:c=cx G ρ w):Yields P n F w (.binOp op t x y t') ty fun v A=>Kp [] w A /\ Rt (cx G ρ A) ρ r.v v/\∀ p ∈ r.fc,p:=by
 unfold erA at h;split at h
 ·split at h
  ·rename_i sz z b o;obtain ⟨va,f,I,J,g⟩:=aw B C;have j:P.underlying t=some (.interface (P.methodsAt t)):=(hT _ _ o).2;obtain ⟨_,g⟩:=g;split at h
   ·cases h;rcases g with ⟨rfl,rfl⟩ | ⟨rfl,q,s,rfl⟩
    ·exact y0 (v:=.bool true) (fun _ _ _ _ _ d=>by simp [execOp,d.ev f,eval_nil,Ed,run_eql_nil_nil w t j]) (Pd.bool (e:=.atom true)) aa
    exact y0 (v:=.bool false) (fun _ _ _ _ _ d=>by simp [execOp,d.ev f,eval_nil,Cn,run_eql_held_nil w t q s j]) (Pd.bool (e:=.atom false)) aa
   ·cases h;rcases g with ⟨rfl,rfl⟩ | ⟨rfl,q,s,rfl⟩
    ·exact y0 (v:=.bool false) (fun _ _ _ _ _ d=>by simp [execOp,d.ev f,eval_nil,Ed,run_neq_nil_nil w t j]) (Pd.bool (e:=.not (.atom true))) aa
    exact y0 (v:=.bool true) (fun _ _ _ _ _ d=>by simp [execOp,d.ev f,eval_nil,Cn,run_neq_held_nil w t q s j]) (Pd.bool (e:=.not (.atom false))) aa
   cases h
  cases h
 cases h
def No (n:Int):IntKind.u8.wrap n=((Q0 n).toNat:Int):=by
 show n % 256=_;unfold Q0;rw [H6];omega
theorem LR (hT:bz P G.shp T) (C:oh G ρ H w) {a:TI} (j:bj T t=some a) (c:bj T t' = some b) (h:PW O H a.k b.k u=some r) (o:∀ p ∈ r.ob,p) (q:Rd (cx G ρ w) ρ u va) (s:ev F x=some va) :
  Yields P n F w (.convert t t' x) ty fun v d=>Kp [] w d /\ Rt (cx G ρ d) ρ r.v v/\∀ p ∈ r.fc,p:=by
 unfold PW at h;split at h
 ·rename_i D I m _ A B;have f:=(hT _ _ j).2;have g:=(hT _ _ c).2;rw [A] at f; rw [B] at g;cases h;cases q with | int J=>
  have:=R.conv (P:=P) (n:=n) (w:=w) (ty:=ty) s f g
  rw [No] at this;exact y0 this Pd.u8 aa
 grind [PK]
theorem GW {k:o3}:∀ {l:List MapEntry} {i:Nat},(∀ e ∈ l,∃ s,e.key = .string s) ->
  (∃ j v,Instr.findNow .string k.val l i=some (some (j,v))/\yw k l=some v)\/(Instr.findNow .string k.val l i=some none/\yw k l=none)
 | [],i,_=>.inr ⟨rfl,rfl⟩
 | e :: l,i,h=>by
  obtain ⟨s,d⟩:=h e aa;have p:=fun x q=>h x (w8 _ q);have f:((⟨k.b.toArray⟩:ByteArray) == s)=decide ((⟨s.data.toList⟩:o3)=k):=by
   rw [E2,MapKept.bytes_beq,vo];constructor
   ·rintro rfl; simp
   intro e; rw [<- e]
  by_cases c:(⟨s.data.toList⟩:o3)=k
  ·exact .inl ⟨i,e.val,by simp [Instr.findNow,d,Instr.sameNow,o3.val,f,c],by simp [yw,Yk,d,c]⟩
  rcases GW (k:=k) (i:=i+1) p with ⟨j,v,g,o⟩ | ⟨g,o⟩
  ·exact .inl ⟨j,v,by simp [Instr.findNow,d,Instr.sameNow,o3.val,f,c]; exact g,by simp [yw,Yk,d,c,o]⟩
  exact .inr ⟨by simp [Instr.findNow,d,Instr.sameNow,o3.val,f,c]; exact g,by simp [yw,Yk,d,c,o]⟩
def R.Wa {g c:Nat} {k:o3} {a:Array MapEntry} {z:Value} {A f:TypeId} (D:ev F x=some (.map (some g))) (I:ev F y=some k.val) (J:P.underlying t=some (.map A f)) (h:P.underlying A=some .string) (o:(P.info? f).bind (·.zero)=some z) (B:w.heap[g]? = some (.map a c)) (K:∀ e ∈ a.toList,∃ s,e.key = .string s) :
  aL P n F w (.lookup t x y false) ty ((yw k a.toList).getD z) w:=fun N _ _ _ _ C=>by
 have d:MapKept.IsKey .string k.val:=trivial;have L:(zeroValue f).run P w = .ok z w:=by
  cases p:P.info? f with
  | none=>simp [p] at o
  | some i=>simp [p] at o; simp [zeroValue,typeInfo,p,o]
 have e:(Instr.lookup t (.map (some g)) k.val false).run P w = .ok ((yw k a.toList).getD z) w:=by
  unfold Instr.lookup;simp [A5 J];rcases GW (k:=k) (i:=0) K with ⟨j,Q,q,v⟩ | ⟨q,v⟩
  ·simp [O2 B,MapKept.run_checkKey h d,MapKept.run_findKey h q];simp [v]
  simp [O2 B,MapKept.run_checkKey h d,MapKept.run_findKey h q];simp [v,L]
 simp [execOp,C.ev D,C.ev I,e]
def KW (hT:bz P G.shp T) {c:Cx} {fr:j9} (C:o9 c ρ fr F) {ok:Bool} {Y:Option TV} (I:dI fr x=X) (J:dI fr y=Y) (h:UG T t X Y ok=some r) (K:c=cx G ρ w):Yields P n F w (.lookup t x y ok) ty fun v D=>Kp [] w D /\ Rt (cx G ρ D) ρ r.v v/\∀ p ∈ r.fc,p:=by
 subst K;unfold UG at h;split at h
 ·rename_i e i sz z f s o;split at h
  ·cases h;obtain ⟨va,L,k,l,N⟩:=aw C I;obtain ⟨vb,Q,S⟩:=aw C J;cases S with | str u=>
   obtain ⟨_,g,a,H,rfl,_,U,V,W⟩:=N;obtain ⟨Z,q,b⟩:=(hT _ _ o).2;have d:=R.Wa (P:=P) (n:=n) (F:=F) (ty:=ty) L Q Z q b U V;obtain ⟨A,B⟩:=W s;rw [A] at d;cases j:f s with
   | none=>rw [j] at d; exact y0 d (by rw [show ((none:Option Int).getD 0)=0 from rfl]; exact Pd.int ⟨az,az⟩) aa
   | some m=>rw [j] at d; exact y0 d (Pd.int (B m j)) aa
  cases h
 cases h
theorem Bi {c:Cx}:∀ {l:List (Nat × n8)} {k:Nat} {cs:List (Nat × Nat)} {pv:List (Nat × Value)},sW k l=some cs->hQ (fun p q=>p.1=q.1/\dJ c ρ p.2 q.2) l pv ->
  ∃ f:List Value,hQ (eQ ρ) cs f/\pv.map (fun p=>(p.1,p.2.cells.toList))=(range' k f.length).zip (f.map fun u=>[u])
 | [],k,cs,_,h,j=>by cases h; cases j; exact ⟨[],.nil,rfl⟩
 | (i,t) :: r,k,cs,_,h,j=>by
  cases j with
  | @cons _ q _ J s v=>
  obtain ⟨K,u⟩:=q;obtain ⟨e,A⟩:=s;simp only at e; subst e;cases t with
  | agg l=>simp [sW] at h
  | c a=>
  cases a;case ptr id o=>
   simp [sW] at h;split at h
   ·rename_i l d B;cases h;obtain ⟨f,C,D⟩:=Bi B v;have d:=r7 d;subst d;obtain ⟨g,I,rfl⟩:=A;refine ⟨_ :: f,.cons ⟨g,I,rfl⟩ C,?_⟩;simp [D];rfl
   cases h
  all_goals simp [sW] at h
theorem aab:∀ c:List Value,(c.map fun u=>[u]).flatten=c
 | []=>rfl
 | a :: r=>by rw [O7,flatten_cons,aab r]; rfl
def Qp (hT:bz P G.shp T) (C:oh G ρ H w) {e:Nat} {cs:List (Nat × Nat)} {parts:Array (Nat × Operand)} {pv:List (Nat × Value)} (d:bj T t=some ⟨.sl e none,sz,z⟩) (o:sW 0 l=some cs) (J:RG F parts.toList=some pv) (K:hQ (fun p q=>p.1=q.1/\dJ (cx G ρ w) ρ p.2 q.2) l pv) (S:cs.length=m) (A:Bv T e=true) (B:m<=16777216) :
  Yields P n F w (.buildSlice t m parts) ty fun v D=>Kp [] w D /\ Rt (cx G ρ D) ρ (one (.xx .pl cs)) v/\∀ p ∈ ([]:List Prop),p:=by
 obtain ⟨g,I,L⟩:=Bi o K;have U:=I.length;have d:=(hT _ _ d).2;have j:=D_ hT A;have c:=R.buildSlice (P:=P) (n:=n) (F:=F) (w:=w) (ty:=ty) (m:=m) (s:=1) (z:=[.pointer none]) (vss:=g.map fun u=>[u]) d.1 j.1 j.2 J (by rw [J4]; exact L) aa (by rw [J4]; omega) az;rw [show parts.toList.toArray=parts by simp,aab g] at c;have h:g.length=m:=by omega
 subst h;refine .inl ⟨_,_,c,Kp.alloc w _,⟨g,I,⟨w.heap.size,0,none⟩,rfl,B,⟨aa,fun ⟨i,r,N,Q⟩=>by have:=(C.sr i r _ N Q).2.1; simp at this,fun j=>by have:=C.z _ j; simp at this⟩,?_⟩,aa⟩;exact db (cells:=g) (sp:=[]) (t:=e) (f:=(0,0)) (by rw [A3]; exact J6 w _)
theorem ZM (hT:bz P G.shp T) (hO:ay P G.shp O) (X:oh G ρ H w) {fr:j9} (I:o9 (cx G ρ w) ρ fr F) (h:X3 T O H fr op=some r) (N:∀ p ∈ r.ob,p) :
  Yields P n F w op ty fun v w'=>Kp [] w w' /\ Rt (cx G ρ w') ρ r.v v/\∀ p ∈ r.fc,p:=by
 cases op <;> simp [X3] at h;case move x=>
  split at h
  ·rename_i tv J;cases h;obtain ⟨v,B,q⟩:=aw I J;exact y0 (R.move B) q aa
  cases h
 case assign x=>
  split at h
  ·rename_i tv J;cases h;obtain ⟨v,B,q⟩:=aw I J;exact y0 (R.assign B) q aa
  cases h
 case unOp u t x=>
  cases u <;> simp only at h <;> try cases h
  split at h
  ·rename_i e J;cases h;obtain ⟨v,B,q⟩:=aw I J;cases q with | bool=>
   have e1:(BE.neg e).val = !e.val:=by cases e <;> simp [BE.neg,BE.val]
   have d:=Pd.bool (c:=cx G ρ w) (e:=e.neg);rw [e1] at d;exact y0 (R.not B) d aa
  cases h
 case binOp op t x y t'=>
  split at h
  ·rename_i a b J Q;split at h
   ·rename_i hb;obtain ⟨va,B,q⟩:=aw I J;obtain ⟨vb,d,C⟩:=aw I Q;obtain ⟨v,L,S,U⟩:=OG (P:=P) (n:=n) (w:=w) (ty:=ty) (t':=t') hT hb h N q C B d;exact y0 L S (um U)
   exact aeC (P:=P) (n:=n) (w:=w) (ty:=ty) hT I J h rfl
  ·rename_i a b J Q;obtain ⟨va,B,vs,rfl,q⟩:=aw I J;obtain ⟨vb,d,us,rfl,C⟩:=aw I Q;obtain ⟨v,L,S,U⟩:=Ws (P:=P) (n:=n) (w:=w) (ty:=ty) (t':=t') hT h q C B d;exact y0 L S (um U)
  cases h
 case extract x i=>
  split at h
  ·rename_i l J;split at h
   ·rename_i a V;cases h;obtain ⟨v,B,vs,rfl,q⟩:=aw I J;obtain ⟨u,d,C⟩:=eE q i a V;exact y0 (R.extract B (by simpa using d)) C aa
   cases h
  cases h
 case nilCheck x=>
  split at h
  ·rename_i a J;obtain ⟨v,B,q⟩:=aw I J;cases a <;> simp at h <;> cases h
   ·obtain ⟨g,d,rfl⟩:=q;exact y0 (R.qJ B) ⟨g,d,rfl⟩ aa
   ·obtain ⟨g,cap,len,z,d,C,rfl⟩:=q;exact y0 (R.qJ B) ⟨g,cap,len,z,d,C,rfl⟩ aa
   ·obtain ⟨A,cells,d,C,L,rfl⟩:=q;exact y0 (R.qJ B) ⟨A,cells,d,C,L,rfl⟩ aa
   obtain ⟨bs,us,d,C,rfl⟩:=q;exact y0 (R.Lb B) ⟨bs,us,d,C,rfl⟩ aa
  cases h
 case convert s t x=>
  split at h
  ·rename_i a b u B q J;obtain ⟨v,d,C⟩:=aw I J;exact LR hT X B q h N C d
  cases h
 case makeFunc g b c=>
  cases g <;> simp only at h <;> try cases h
  rename_i f;split at h
  ·rename_i cs hb hc;split at h
   ·rename_i cp hcp;cases h;obtain ⟨vs,B,q⟩:=mQ I hc;have d:=pq hcp q;obtain rfl:b = #[]:=by
     apply G6;simpa using hb
    refine y0 (R.makeFunc (cv:=vs.toArray) fun a ha=>?_) ⟨[],vs,.nil,d,rfl⟩ aa;apply G6;rw [Array.toList_map,oe ha B]
   cases h
  cases h
 case fieldAddr t x i=>
  split at h
  ·rename_i fs sz z a B J;split at h
   ·rename_i o k V;obtain ⟨v,q,d⟩:=aw I J;obtain ⟨u,C,L,_,U⟩:=MU (P:=P) (n:=n) (w:=w) (ty:=ty) hT B V d q h;exact y0 C L (um U)
   cases h
  cases h
 case load t x=>
  split at h
  ·rename_i a J;obtain ⟨v,q,d⟩:=aw I J;split at h
   ·rename_i r' hla;cases h;obtain ⟨u,C,L,S⟩:=rz (P:=P) (n:=n) (ty:=ty) hT X d q hla N;exact y0 C L S
   obtain ⟨u,C,L,_,U⟩:=BM (P:=P) (n:=n) (ty:=ty) hT X d q h;exact y0 C L (um U)
  cases h
 case indexAddr t x y=>
  split at h
  ·rename_i a b s J Q hs;split at h
   ·rename_i i V;obtain ⟨va,B,q⟩:=aw I J;obtain ⟨vb,d,C⟩:=aw I Q;obtain ⟨k,rfl⟩:=ql V C;obtain ⟨v,L,S,U⟩:=Mb (P:=P) (n:=n) (ty:=ty) hT X hs h N q B d;exact y0 L S U
   cases h
  ·rename_i a b J Q hs;split at h
   ·rename_i i V;obtain ⟨va,B,q⟩:=aw I J;obtain ⟨vb,d,C⟩:=aw I Q;obtain ⟨k,rfl⟩:=ql V C;obtain ⟨v,L,S,U⟩:=zn (P:=P) (n:=n) (ty:=ty) hT q B d h N;exact y0 L S U
   cases h
  ·rename_i b J Q hs;split at h
   ·rename_i i V;obtain ⟨vb,d,C⟩:=aw I Q;obtain ⟨k,rfl⟩:=ql V C;obtain ⟨v,L,S,U⟩:=zk (P:=P) (n:=n) (ty:=ty) hT X d h N;exact y0 L S U
   cases h
  cases h
 case index t x y=>
  split at h
  ·rename_i s b J Q;split at h
   ·rename_i i V;split at h
    ·rename_i sz z ht;cases h;obtain ⟨va,B,q⟩:=aw I J;obtain ⟨vb,d,C⟩:=aw I Q;obtain ⟨k,rfl⟩:=ql V C;cases q with | str hl=>
     have g0:=N _ (z6); have g1:=N _ (w8 _ (u3 _));obtain ⟨j,rfl⟩:=x6 g0;exact y0 (R.ah9 B d (hT _ _ ht).2 az) Pd.u8 aa
    cases h
   cases h
  ·rename_i cs b J Q;split at h
   ·rename_i i V;obtain ⟨va,B,q⟩:=aw I J;obtain ⟨vb,d,C⟩:=aw I Q;obtain ⟨k,rfl⟩:=ql V C;obtain ⟨v,L,S,U⟩:=zg (P:=P) (n:=n) (w:=w) (ty:=ty) hT q B d h N;exact y0 L S U
   cases h
  cases h
 case build t parts=>
  split at h
  ·rename_i fs sz z l ht hl;split at h
   ·rename_i cs hb;cases h;obtain ⟨pv,B,q⟩:=kP I hl;obtain ⟨us,d,C⟩:=LB (P:=P) (n:=n) (w:=w) (ty:=ty) hT ht B q hb;have e:parts.toList.toArray=parts:=by simp
    rw [e] at d;exact y0 d ⟨us,rfl,C⟩ aa
   cases h
  ·rename_i m e sz z l ht hl;split at h
   ·rename_i s cs hs hb;cases h;obtain ⟨pv,B,q⟩:=kP I hl;obtain ⟨us,d,C⟩:=uo (P:=P) (n:=n) (w:=w) (ty:=ty) hT ht (zO hT hs).2.1 B q hb;have e:parts.toList.toArray=parts:=by simp
    rw [e] at d;exact y0 d ⟨us,rfl,C⟩ aa
   cases h
  cases h
 case slice t x lo V mx=>
  cases mx with
  | some m=>cases h
  | none=>
  simp only at h;split at h
  ·rename_i a J;obtain ⟨va,B,q⟩:=aw I J;have fin:∀ (l' h':Option Int),lO T t a l' h' = some r->(∀ i,l' = some i->∃ z,lo=some z/\ev F z=some (.int .i64 i))->(l' = none->lo=none)->(∀ i,h' = some i->∃ z,V=some z/\ev F z=some (.int .i64 i))->(h' = none->V=none)->Yields P n F w (.slice t x lo V none) ty fun v w'=>Kp [] w w' /\ Rt (cx G ρ w') ρ r.v v/\∀ p ∈ r.fc,p:=fun l' h' hs k1 k2 k3 Z=>by
    obtain ⟨v,L,S,U⟩:=KQ (P:=P) (n:=n) (w:=w) (ty:=ty) hT hs N q B k1 k2 k3 Z;exact y0 L S (um U)
   split at h
   ·cases h
   ·split at h
    ·rename_i z i hz;obtain ⟨vz,d,C⟩:=aw I hz;cases C with | int=>
     exact fin _ _ h (fun j hj=>by cases hj; exact ⟨_,rfl,d⟩) aa aa (fun _=>rfl)
    cases h
   ·split at h
    ·rename_i z i hz;obtain ⟨vz,d,C⟩:=aw I hz;cases C with | int=>
     exact fin _ _ h aa (fun _=>rfl) (fun j hj=>by cases hj; exact ⟨_,rfl,d⟩) aa
    cases h
   split at h
   ·rename_i z z' i j hz hz';obtain ⟨vz,d,C⟩:=aw I hz;obtain ⟨vz',L,S⟩:=aw I hz';cases C with | int=>
    cases S with | int=>
    exact fin _ _ h (fun j hj=>by cases hj; exact ⟨_,rfl,d⟩) aa (fun j hj=>by cases hj; exact ⟨_,rfl,L⟩) aa
   cases h
  cases h
 case call W=>
  split at h
  ·rename_i K;split at h
   ·rename_i x t D htys;split at h
    ·rename_i a J;split at h
     ·rename_i m hm;cases h;obtain ⟨va,B,q⟩:=aw I J;obtain ⟨d,C⟩:=VL (P:=P) (n:=n) (ty:=ty) hT X hm q B;have e:W={ callee:=.builtin .len,args:=#[x],argTypes:=#[t] }:=by
       cases W; simp at K D htys; subst K;simp;exact ⟨G6 (by simpa using D),G6 (by simpa using htys)⟩
      rw [e];exact y0 d (Pd.int C) aa
     cases h
    cases h
   cases h
  ·rename_i K;split at h
   ·rename_i x y D;split at h
    ·rename_i a b J Q;cases h;obtain ⟨va,B,q⟩:=aw I J;obtain ⟨vb,d,C⟩:=aw I Q;cases q with | int ia=>
     cases C with | int ib=>
     have e:W={ callee:=.builtin .min,args:=#[x,y],argTypes:=W.argTypes }:=by
      cases W; simp at K D; subst K;simp;exact G6 (by simpa using D)
     rw [e];exact y0 (R.min2 B d) (Pd.int (by unfold a7 at *; omega)) aa
    ·rename_i a b J Q;cases h;obtain ⟨va,B,q⟩:=aw I J;obtain ⟨vb,d,C⟩:=aw I Q;cases q with | u64 ia=>
     cases C with | u64 ib=>
     have e:W={ callee:=.builtin .min,args:=#[x,y],argTypes:=W.argTypes }:=by
      cases W; simp at K D; subst K;simp;exact G6 (by simpa using D)
     have e2:min (a:Int) (b:Int)=((min a b:Nat):Int):=by omega
     have e3:=R.min2 (P:=P) (n:=n) (w:=w) (ty:=ty) (asx:=W.argTypes) B d;rw [e2] at e3;rw [e];exact y0 e3 (Pd.u64 az) aa
    cases h
   cases h
  ·rename_i K;split at h
   ·rename_i x y D;split at h
    ·rename_i a b J Q;cases h;obtain ⟨va,B,q⟩:=aw I J;obtain ⟨vb,d,C⟩:=aw I Q;cases q with | int ia=>
     cases C with | int ib=>
     have e:W={ callee:=.builtin .max,args:=#[x,y],argTypes:=W.argTypes }:=by
      cases W; simp at K D; subst K;simp;exact G6 (by simpa using D)
     rw [e];exact y0 (R.max2 B d) (Pd.int (by unfold a7 at *; omega)) aa
    cases h
   cases h
  ·rename_i x K;split at h
   ·rename_i f l hl;obtain ⟨x',xs,vs,bs,cap,B,q,d,C,L⟩:=mz I hl;obtain ⟨⟨fn,S,U,h8⟩,Y⟩:=xm hO X L h N;have e:W={ callee:=.value x',args:=xs.toArray,argTypes:=W.argTypes }:=by
     cases W; simp at B q; subst B; subst q; rfl
    rw [e];exact .inr ⟨_,_,E.Vd d C S U h8,Y⟩
   cases h
  cases h
 case lookup t x y ok=>
  split at h
  ·rename_i s id k hft J Q;split at h
   ·rename_i s' f hO2;split at h
    ·rename_i hss;subst hss;obtain ⟨hm,hk,hz,_⟩:=(hT _ _ hft).2;obtain ⟨z,zs,hz1,hz2,hz3⟩:=hz _ rfl;obtain ⟨va,B,q⟩:=aw I J;obtain ⟨vb,d,C⟩:=aw I Q;cases C with | int=>
     obtain ⟨g,hg,rfl⟩:=q;obtain ⟨r',hr',hor⟩:=X.at_ (cq hO2 aa);rw [hg] at hr'; cases hr';obtain ⟨g',e,a,c,k1,k2,k3⟩:=hor;cases e;have Y:=R.sk (P:=P) (n:=n) (ty:=ty) ok B d hm hk hz1 k1 k2;have hv:V1 (cx G ρ w) s' ((f k).getD (c5 s')) ((getM k a.toList).getD z):=by
      have Z:=k3 k;cases hgm:getM k a.toList <;> cases hfk:f k <;> rw [hgm,hfk] at Z
      ·exact V1.zero hz2 hz3
      ·exact Z.elim
      ·exact Z.elim
      exact Z
     have hs:(getM k a.toList).isSome=(f k).isSome:=by
      have Z:=k3 k;cases hgm:getM k a.toList <;> cases hfk:f k <;> rw [hgm,hfk] at Z
      ·rfl
      ·exact Z.elim
      ·exact Z.elim
      rfl
     cases ok with
     | false=>cases h; exact y0 Y hv.rt aa
     | true=>
      cases h;refine y0 Y ⟨_,rfl,.cons hv.rt (.cons ?_ .nil)⟩ aa;rw [hs];exact Pd.bool (e:=.atom (f k).isSome)
    cases h
   cases h
  exact KW (P:=P) (n:=n) (w:=w) (ty:=ty) hT I rfl rfl h rfl
 case buildSlice t m parts=>
  split at h
  ·rename_i e sz z l hft hl;split at h
   ·rename_i cs hcs;split at h
    ·rename_i hck;simp [pr,Option.some.injEq] at h;subst h;simp only [pe] at hck;obtain ⟨pv,B,q⟩:=kP I hl;exact Qp hT X hft hcs B q (r7 hck.1.1) hck.1.2 (F4 hck.2)
    cases h
   cases h
  cases h
 all_goals cases h
end
section
variable {P:Program} {n:Nat} {fr:Fr} {w:World} {x y:Operand} {t t' ty e:TypeId}
variable {cs:List Value}
def R.pM {g o b k c l z:Nat} {a:Addr} {cur:List Value} {m:TypeId} (r:ev fr x=some (.slice (some ⟨g,o,none⟩) b k)) (s:ev fr y=some (.slice (some a) c l)) (u:P.underlying t=some (.slice e)) (p:(P.info? e).map (·.size)=some z)
  (A:w.heap[g]? = some (.cells cur.toArray m (0,0))) (B:cs.length=Nat.min c b*z) (d:ie w a cs) (f:o+cs.length<=cur.length) (C:∀ v ∈ cs,v.oneCell' = true) :
  aL P n fr w (.call { callee:=.builtin .copy,args:=#[x,y],argTypes:=#[t,t'] }) ty (goInt (Nat.min c b)) (w.setRow g (cur.take o++cs++cur.drop (o+cs.length)).toArray):=fun _ _ _ _ _ q=>by
 have D:=T5 (P:=P) w a cs d;have h:=run_storeCells_at (P:=P) g o m cs 0 cur.toArray w A (by simpa using f) C;cases j:P.info? e with
 | none=>simp [j] at p
 | some i=>
  have F:i.size=z:=by simpa [j] using p
  have G:(Builtin.copy_ #[t,t'] ty #[.slice (some ⟨g,o,none⟩) b k,.slice (some a) c l]).run P w = .ok (goInt (Nat.min c b)) (w.setRow g (cur.take o++cs++cur.drop (o+cs.length)).toArray):=by
   simp [Builtin.copy_,A5 u,Builtin.lenOf,Builtin.firstCells,sizeOf,typeInfo,j,F,<- B,D,h]
  simp [execOp,resolve,invoke,builtin,q.ev r,q.ev s,G]
variable {kh km:IntKind} {k i m j:Nat} {z' z'':Operand} {a:Option Addr}
def R.slice3 {c s:Nat} {f:IntKind} {z:Operand} (u:ev fr x=some (.slice a m c)) (v:ev fr z=some (.int f (i:Int))) (g:ev fr z' = some (.int kh (j:Int))) (d:ev fr z'' = some (.int km (k:Int))) (h:P.underlying t=some (.slice e)) (r:(P.info? e).map (·.size)=some s)
  (A:i<=j) (B:j<=k) (D:k<=c):aL P n fr w (.slice t x (some z) (some z') (some z'')) ty (.slice (if k=i then a else a.map (·.add (i*s))) (j - i) (k - i)) w:=fun _ _ _ _ _ b=>by
 cases l:P.info? e with
 | none=>simp [l] at r
 | some q=>
  have o:q.size=s:=by simpa [l] using r
  have p:P.elem t=e:=by simp [Program.elem,h]
  have C:=S8 (P:=P) w t (.slice a m c) (some (.int f (i:Int))) (some (.int kh (j:Int))) (some (.int km (k:Int))) (by rw [p]; exact h);have:=run_slice_lhm (P:=P) w t a m c (by rw [p]; exact h) f kh km (i:Int) (j:Int) (k:Int) az az az az;simp [execOp,b.ev u,b.ev v,b.ev g,b.ev d,C,this,p,sizeOf,typeInfo,l,o,sliced]
def R.Wf {c s:Nat} (o:ev fr x=some (.slice a m c)) (f:ev fr z' = some (.int kh (j:Int))) (d:ev fr z'' = some (.int km (k:Int))) (g:P.underlying t=some (.slice e)) (p:(P.info? e).map (·.size)=some s)
  (r:j<=k) (v:k<=c):aL P n fr w (.slice t x none (some z') (some z'')) ty (.slice (if k=0 then a else a.map (·.add (0*s))) (j - 0) (k - 0)) w:=fun _ _ _ _ _ b=>by
 cases l:P.info? e with
 | none=>simp [l] at p
 | some q=>
  have h:P.elem t=e:=by simp [Program.elem,g]
  have u:=S8 (P:=P) w t (.slice a m c) none (some (.int kh (j:Int))) (some (.int km (k:Int))) (by rw [h]; exact g);have:=run_slice_hm (P:=P) w t a m c (by rw [h]; exact g) kh km (j:Int) (k:Int) az az az;simp [execOp,b.ev o,b.ev f,b.ev d,u,this,h,sizeOf,typeInfo,l,sliced]
theorem wJ (z:Int) (h:0<=z):IntKind.u32.wrap z=((z.toNat % 4294967296:Nat):Int):=by
 simp only [IntKind.wrap,IntKind.bits,IntKind.signed];simp;omega
def wrap_u32 (h:m<4294967296):IntKind.u32.wrap (m:Int)=(m:Int):=by
 rw [wJ _ az,G5,FB h]
variable {a b:Nat}
theorem R.ao6 {c:IntKind} (f:ev fr x=some (.int .u32 (a:Int))) (g:ev fr y=some (.int c (b:Int))) (h:b<=32):aL P n fr w (.binOp .shl t x y t') ty (.int .u32 (((a*2 ^ b) % 4294967296:Nat):Int)) w:=fun _ _ _ _ _ d=>by
 have e:IntKind.u32.wrap ((a:Int)*2 ^ b)=(((a*2 ^ b) % 4294967296:Nat):Int):=by grind [wJ]
 have l:Op.shift .shl .u32 (a:Int) c (b:Int)=pure (.int .u32 (((a*2 ^ b) % 4294967296:Nat):Int)):=by simp_all
 simp [execOp,d.ev f,d.ev g,binOp_shl];rfl
def R.orW (l:ev fr x=some (.int .u32 (a:Int))) (o:ev fr y=some (.int .u32 (b:Int))) (d:a<4294967296) (f:b<4294967296):aL P n fr w (.binOp .or t x y t') ty (.int .u32 ((a ||| b:Nat):Int)) w:=fun _ _ _ _ _ g=>by
 have h:∀ c:Nat,(BitVec.ofInt 32 (c:Int))=BitVec.ofNat 32 c:=fun c=>by rw [V0]
 have e:bits .or .u32 (a:Int) (b:Int)=((a ||| b:Nat):Int):=by
  show IntKind.u32.wrap ((BitVec.ofInt 32 (a:Int) ||| BitVec.ofInt 32 (b:Int)).toNat:Int)=_;rw [h,h,BitVec.toNat_or,O4,O4,FB (by simpa using d),FB (by simpa using f)];exact wrap_u32 (M0 (n:=32) d f)
 simp [execOp,g.ev l,g.ev o,eqGuard_or,binOp_or,intBits_or,e]
def R.aeJ {v:Value} {F:Array Go.Field} {f:Go.Field} {d:TypeDesc} (c:ev fr x=some (.agg cs.toArray)) (g:P.underlying t=some (.struct F)) (h:F[i]? = some f) (l:P.underlying f.type=some d) (o:ly d=false) (p:cs[f.offset]? = some v):aL P n fr w (.field t x i) ty v w:=fun _ _ _ _ _ q=>by
 have r:(Instr.field t (.agg cs.toArray) i).run P w = .ok v w:=by
  unfold Instr.field;simp [A5 g,h,part,mJ l,o,p,asAgg]
 simp [execOp,q.ev c,r]
def R.Mo {f:FuncId} {c cs:List Operand} {d g:List Value} (l:Vz fr c=some d) (o:Vz fr cs=some g):aL P n fr w (.makeFunc (.func f) c.toArray cs.toArray) ty (.func (.func f) d.toArray g.toArray) w:=fun _ _ _ _ _ h=>by
 simp [execOp,oe h l,oe h o,Instr.makeFunc]
end
section
variable {P:Program} {T:List (Nat × TI)} {G:Gl} {O:ck} {n:Nat} {F:Fr} {w:World} {x y:Operand} {ty t t':TypeId} {ρ:List RE} {H:AH}
variable {m:Nat}
def Bh {c:Cx} (h:m<4294967296):Rt c ρ (one (.xx (.w m) [])) (.int .u32 (m:Int)):=⟨[],.nil,rfl,h,rfl⟩
def Xx {c:Cx} {v:Value} (h:Rt c ρ (one (.xx (.w m) [])) v):m<4294967296/\v = .int .u32 (m:Int):=by
 obtain ⟨a,_,h⟩:=h;exact h.2
variable {r:PR} {op:BinOp} {a b:Nat}
def Wx (h:wOp op a b=some r) (g:∀ p ∈ r.ob,p) (i:a<4294967296) (k:b<4294967296) (d:ev F x=some (.int .u32 (a:Int))) (f:ev F y=some (.int .u32 (b:Int))) {c:Cx}:∃ v,aL P n F w (.binOp op t x y t') ty v w/\Rt c ρ r.v v/\r.fc=[]:=by
 unfold wOp at h;split at h <;> cases h
 ·exact ⟨_,R.eql d f,Pd.bool (e:=.eq _ _),rfl⟩
 ·exact ⟨_,R.neq d f,Pd.bool (e:=.not (.eq _ _)),rfl⟩
 ·have:=R.XO (P:=P) (n:=n) (w:=w) (ty:=ty) (t:=t) (t':=t') d f;exact ⟨_,this,Bh (E5 _ az),rfl⟩
 ·have:=R.aka (P:=P) (n:=n) (w:=w) (ty:=ty) (t:=t) (t':=t') d f;exact ⟨_,this,Bh (E5 _ az),rfl⟩
 ·have j:=g _ (u3 _);exact ⟨_,R.YE d f j,Bh (J3 (Nat.mod_le _ _) i),rfl⟩
 ·have j:=g _ (u3 _);have l:=J3 (L9 a b) i;exact ⟨_,R.Yn d f j (wrap_u32 l),Bh l,rfl⟩
 exact ⟨_,R.orW d f i k,Bh (M0 (n:=32) i k),rfl⟩
def VR (h:wSh op a b=some r) (d:∀ p ∈ r.ob,p) (i:a<4294967296) (f:ev F x=some (.int .u32 (a:Int))) (g:ev F y=some (.int .u64 (b:Int))) {c:Cx}:∃ v,aL P n F w (.binOp op t x y t') ty v w/\Rt c ρ r.v v/\r.fc=[]:=by
 unfold wSh at h;split at h <;> cases h
 ·have e:=d _ (u3 _);exact ⟨_,R.ao6 f g (Q8 e),Bh (E5 _ az),rfl⟩
 have e:=d _ (u3 _);exact ⟨_,R.NS f g (Q8 e),Bh (J3 (L9 _ _) i),rfl⟩
theorem sB {c:Cx} {d:List KC}:∀ {z g:List KC} {i:Nat},Nf z g=true->(∀ j,g.getD j .nf=d.getD (i+j) .nf)->hQ (Rd c ρ) (ET d i z) (g.map KC.val)
 | [],[],_,_,_=>.nil
 | a :: _,[],_,h,_=>by cases a <;> simp [Nf] at h
 | a :: z,b :: g,i,h,l=>by
  have k:d.getD i .nf=b:=(l 0).symm;have f:∀ j,g.getD j .nf=d.getD (i+1+j) .nf:=fun j=>by
   have:=l (j+1);grind
  cases a <;> cases b <;> simp [Nf] at h <;> try cases h
  ·refine .cons ?_ (sB ap f);rw [k];rename_i o _;exact (Pd.int o:Pd c _ _)
  ·refine .cons ?_ (sB h f);rw [k];exact Pd.bool (e:=.atom _)
  all_goals
   refine .cons ?_ (sB h f);rw [k];exact ⟨[],.nil,rfl,rfl⟩
theorem Kv {z:List KC}:∀ {l:List (Int × List KC)} {k:Int},S0 z l=true->Nf z ((eB l k).getD z)=true
 | [],_,h=>h
 | (j,c) :: r,k,h=>by
  simp [S0] at h;unfold eB;split
  ·exact h.1
  exact Kv h.2
def uF (hT:bz P G.shp T) {c:Cx} {a:AV} {l h m:Int} {U:Value} (B:zW T t a l h m=some r) (f:∀ p ∈ r.ob,p) (D:Rd c ρ a U) :
  ∃ (e:TypeId) (s:Nat) (A:Option Addr) (len g i j k:Nat),P.underlying t=some (.slice e)/\(P.info? e).map (·.size)=some s/\U = .slice A len g/\l=i/\h=j/\m=k/\i<=j/\j<=k/\k<=g/\Rt c ρ r.v (.slice (if k=i then A else A.map (·.add (i*s))) (j - i) (k - i))/\r.fc=[]:=by
 unfold zW at B;split at B
 ·rename_i s xs;split at B
  ·rename_i o u;split at B
   ·rename_i I;have J:=zc I;subst J;cases B;have W:=f _ (.head _);have H:=f _ (.tail _ (.head _));have O:=f _ (.tail _ (.tail _ (.head _)));have o4:=f _ (.tail _ (.tail _ (.tail _ (.head _))));have K:0<=m:=by omega
    obtain ⟨i,rfl⟩:=x6 W;obtain ⟨j,rfl⟩:=x6 (show 0<=h by omega);obtain ⟨k,rfl⟩:=x6 K;have D:Pd c _ _:=D;cases D with
    | @fz _ _ A g cells h1 h2 X Y L=>
    unfold N1 at u;split at u
    ·rename_i e so sz z N;subst u;obtain ⟨Z,b⟩:=(hT _ _ N).2;obtain ⟨_,⟨zz,Q,_⟩,_⟩:=b _ rfl;have C:(P.info? e).map (·.size)=some o.size:=by
      cases V:P.info? e with
      | none=>simp [V] at Q
      | some q=>simp [V] at Q; simp [Q.2.1]
     refine ⟨e,o.size,A,xs.length,g,i,j,k,Z,C,rfl,rfl,rfl,rfl,az,az,az,?_,rfl⟩;have d:((xs.drop i).take (j - i)).length=j - i:=by rw [s9,length_drop]; omega
     have n:((xs.drop i).take (j - i)).length*o.bytes<=140737488355328:=by
      refine z7 (H4 _ ?_) X;rw [d]; omega
     show Pd c (.fz o ((xs.drop (i:Int).toNat).take ((j:Int).toNat - (i:Int).toNat))) _;simp;have:=Pd.fz (c:=c) (s:=o) (xs:=(xs.drop i).take (j - i)) (a:=if k=i then A else A.map (·.add (i*o.size))) (k:=k - i) (cells:=(cells.drop (i*o.size)).take ((j - i)*o.size)) (by rw [d]; omega) az n (bU (cC Y i) (j - i)) ?_
     ·rw [d] at this; exact this
     by_cases w:k=i
     ·left;have:j - i=0:=by omega
      rw [this]; rfl
     rw [dc w];rcases L with L | ⟨x,y,S,F⟩
     ·left; subst L; simp
     right;subst y;exact ⟨x.add (i*o.size),rfl,by rw [gI]; exact S,(F.drop _).take _⟩
    cases u
   cases B
  cases B
 cases B
variable {te tp:TypeId}
theorem Gu (a:Option Addr) (c:P.underlying tp=some (.pointer te)):(binOp .eql tp (.pointer a) (.pointer none)).run P w = .ok (.bool a.isNone) w:=by
 have h:∀ d:Nat,(Op.equalIn (d+1) tp (.pointer a) (.pointer none)).run P w = .ok a.isNone w:=fun d=>by
  cases a <;> simp [Op.equalIn,A5 c]
 simp [binOp];simp [Op.equal,Op.maxDepth,h 9999]
theorem EH (a:Option Addr) (c:P.underlying tp=some (.pointer te)):(binOp .neq tp (.pointer a) (.pointer none)).run P w = .ok (.bool !a.isNone) w:=by
 have h:∀ d:Nat,(Op.equalIn (d+1) tp (.pointer a) (.pointer none)).run P w = .ok a.isNone w:=fun d=>by
  cases a <;> simp [Op.equalIn,A5 c]
 simp [binOp];simp [Op.equal,Op.maxDepth,h 9999]
theorem BH (op:BinOp) (t:TypeId) (x y:Operand) (a b:Option Addr):eqGuard op t x y (.pointer a) (.pointer b)=pure ():=by cases op <;> rfl
def Hu (hT:bz P G.shp T) {a:Option Addr} (h:W6 T t op a.isNone=some r) (i:ev F x=some (.pointer a)) (j:ev F y=some (.pointer none)) {c:Cx}:∃ v,aL P n F w (.binOp op t x y t') ty v w/\Rt c ρ r.v v/\r.fc=[]:=by
 unfold W6 at h;split at h
 ·rename_i sz z d;obtain ⟨e,g⟩:=(hT _ _ d).2;cases h;exact ⟨.bool a.isNone,fun _ _ _ _ _ f=>by simp [execOp,f.ev i,f.ev j,BH,Gu a g],Pd.bool (e:=.lit a.isNone),rfl⟩
 ·rename_i sz z d;obtain ⟨e,g⟩:=(hT _ _ d).2;cases h;exact ⟨.bool !a.isNone,fun _ _ _ _ _ f=>by simp [execOp,f.ev i,f.ev j,BH,EH a g],Pd.bool (e:=.lit !a.isNone),rfl⟩
 cases h
variable {op:Op}
def Wp (hT:bz P G.shp T) (_:oh G ρ H w) {fr:j9} (C:o9 (cx G ρ w) ρ fr F) (h:X4 T H fr op=some r) (L:∀ p ∈ r.ob,p) :
  Yields P n F w op ty fun v w'=>Kp [] w w' /\ Rt (cx G ρ w') ρ r.v v/\∀ p ∈ r.fc,p:=by
 unfold X4 at h;split at h
 ·-- binOp
  split at h
  ·rename_i i o J Q;obtain ⟨S,B,g,_,rfl⟩:=aw C J;obtain ⟨vb,K,I⟩:=aw C Q;replace I:vb = .pointer none:=I;subst I;obtain ⟨v,U,X,Y⟩:=Hu (P:=P) (n:=n) (w:=w) (ty:=ty) (ρ:=ρ) (c:=cx G ρ w) hT (a:=some ⟨g,o,none⟩) h B K;exact y0 U X (um Y)
  ·rename_i J Q;obtain ⟨S,B,D⟩:=aw C J;replace D:S = .pointer none:=D;subst D;obtain ⟨vb,K,I⟩:=aw C Q;replace I:vb = .pointer none:=I;subst I;obtain ⟨v,U,X,Y⟩:=Hu (P:=P) (n:=n) (w:=w) (ty:=ty) (ρ:=ρ) (c:=cx G ρ w) hT (a:=none) h B K;exact y0 U X (um Y)
  ·rename_i a b J Q;obtain ⟨S,B,D⟩:=aw C J;obtain ⟨vb,K,I⟩:=aw C Q;obtain ⟨ka,rfl⟩:=Xx D;obtain ⟨kb,rfl⟩:=Xx I;obtain ⟨v,U,X,Y⟩:=Wx (P:=P) (n:=n) (w:=w) (ty:=ty) (ρ:=ρ) (c:=cx G ρ w) h L ka kb B K;exact y0 U X (um Y)
  ·rename_i a b J Q;obtain ⟨S,B,D⟩:=aw C J;obtain ⟨vb,K,I⟩:=aw C Q;obtain ⟨ka,rfl⟩:=Xx D;cases I with | u64 ib=>
   obtain ⟨v,U,X,Y⟩:=VR (P:=P) (n:=n) (w:=w) (ty:=ty) (ρ:=ρ) (c:=cx G ρ w) h L ka B K;exact y0 U X (um Y)
  ·rename_i a b J Q;obtain ⟨S,B,D⟩:=aw C J;obtain ⟨vb,K,I⟩:=aw C Q;cases D with | int ia=>
   cases I with | u64 ib=>
   unfold iSh at h;split at h
   ·cases h;have g0:=L _ (.head _);have g1:=L _ (.tail _ (.head _));obtain ⟨m,rfl⟩:=x6 g0;have hd:=L9 m (2 ^ b);refine y0 (R.NS B K (Q8 g1)) ?_ aa;rw [G5];generalize m / 2 ^ b=q at hd;exact Pd.int ⟨az,by have:=ia.2; omega⟩
   cases h
  cases h
 ·-- convert
  split at h
  ·rename_i b hs hd J;cases h;obtain ⟨S,B,D⟩:=aw C J;cases D with | u8=>
   have e1:=(hT _ _ hs).2;have e2:=(hT _ _ hd).2;have:=R.conv (P:=P) (n:=n) (w:=w) (ty:=ty) B e1 e2
   have V:=b.toNat_lt;rw [wrap_u32 az] at this;exact y0 this (Bh az) aa
  ·rename_i m hs hd J;cases h;obtain ⟨S,B,D⟩:=aw C J;obtain ⟨_,rfl⟩:=Xx D;exact y0 (R.af1 B (hT _ _ hs).2 (hT _ _ hd).2) Pd.u8 aa
  cases h
 ·-- lookup
  split at h
  ·rename_i kt et z sz zz l k Z J Q;obtain ⟨hm,hk,hz⟩:=(hT _ _ Z).2;obtain ⟨S,B,us,D,K⟩:=aw C J;obtain ⟨vb,I,U⟩:=aw C Q;cases U with | int=>
   obtain ⟨_,g,a,n',rfl,_,hg,x,hv⟩:=K;have y:S0 z l=true->(getM k a.toList).getD (.agg (z.map KC.val).toArray) = .agg (((eB l k).getD z).map KC.val).toArray/\(getM k a.toList).isSome=(eB l k).isSome:=fun _=>by
    rw [hv k]; cases eB l k <;> exact ⟨rfl,rfl⟩
   have W:S0 z l=true->dJ (cx G ρ w) ρ (.agg (ET ((eB l k).getD z) 0 z)) (.agg (((eB l k).getD z).map KC.val).toArray):=fun V=>⟨_,rfl,sB (Kv V) fun j=>by rw [x7]⟩;split at h
   ·rename_i V;cases h;have N:=R.sk (P:=P) (n:=n) (ty:=ty) false B I hm hk hz hg x;rw [dc am,(y V).1] at N;exact y0 N (W V) aa
   ·rename_i V;cases h;have N:=R.sk (P:=P) (n:=n) (ty:=ty) true B I hm hk hz hg x;rw [eg rfl,(y V).1,(y V).2] at N;exact y0 N ⟨_,rfl,.cons (W V) (.cons (Pd.bool (e:=.atom _)) .nil)⟩ aa
   cases h
  cases h
 ·-- field
  rename_i i;split at h
  ·rename_i fs sz z cs Z J hmem;split at h
   ·rename_i o k hi;split at h
    ·rename_i a ha;cases h;obtain ⟨_,Fs,hu,hm,hp,_,hfl⟩:=hT _ _ Z;obtain ⟨f,d,hf1,hf2,hf3⟩:=hfl _ hmem;obtain ⟨f',hf',hfs⟩:=yr hm _ _ hi;have e:f' = f:=by
      have:Fs[i]? = some f':=by simpa using hf'
      rw [this] at hf1; exact B1 hf1
     subst e;rw [G4] at hfs;obtain ⟨inf,hinf,he⟩:=hfs;cases he;obtain ⟨S,B,us,rfl,D⟩:=aw C J;obtain ⟨u,hu1,hu2⟩:=eE D _ _ ha;exact y0 (R.aeJ B hu hf1 hf2 hf3 hu1) hu2 aa
    cases h
   cases h
  cases h
 ·-- makeFunc
  rename_i f b c;split at h
  ·rename_i bs cs V hc;split at h
   ·rename_i bp cp hbp hcp;cases h;obtain ⟨bv,B,D⟩:=mQ C V;obtain ⟨cv,K,I⟩:=mQ C hc;have:=R.Mo (P:=P) (n:=n) (w:=w) (ty:=ty) (f:=f) B K;rw [show b.toList.toArray=b by simp,show c.toList.toArray=c by simp] at this;exact y0 this ⟨bv,cv,pq hbp D,pq hcp I,rfl⟩ aa
   cases h
  cases h
 ·-- indexAddr
  split at h
  ·rename_i id i m e sz z J Q Z;split at h
   ·rename_i tb cs z1 hH hfe;split at h
    ·rename_i hck;cases h;have h0:=L _ (.head _);have h1':=L _ (.tail _ (.head _));obtain ⟨j,rfl⟩:=x6 h0;obtain ⟨S,B,D⟩:=aw C J;obtain ⟨vb,K,I⟩:=aw C Q;cases I with | int=>
     obtain ⟨g,hg,rfl⟩:eQ ρ (id,0) S:=D;have hse:(P.info? e).map (·.size)=some 1:=(hT _ _ hfe).1.1;exact y0 (R.iL B K (hT _ _ Z).2 hse az) ⟨g,hg,by rw [G5]⟩ aa
    cases h
   cases h
  cases h
 ·-- slice,three places
  split at h
  ·rename_i a l' h' m' J hl hh hm;obtain ⟨S,B,D⟩:=aw C J;obtain ⟨vl,K,I⟩:=aw C hl;obtain ⟨vh,U,X⟩:=aw C hh;obtain ⟨vm,Y,h8⟩:=aw C hm;cases I with | int=>
   cases X with | int=>
   cases h8 with | int=>
   obtain ⟨e,s,A,len,cap,i,j,k,hu,hi,rfl,rfl,rfl,rfl,b1,b2,b3,W,hfc⟩:=uF (P:=P) hT h L D;exact y0 (R.slice3 B K U Y hu hi b1 b2 b3) W (um hfc)
  cases h
 ·split at h
  ·rename_i a h' m' J hh hm;obtain ⟨S,B,D⟩:=aw C J;obtain ⟨vh,U,X⟩:=aw C hh;obtain ⟨vm,Y,h8⟩:=aw C hm;cases X with | int=>
   cases h8 with | int=>
   obtain ⟨e,s,A,len,cap,i,j,k,hu,hi,rfl,hi0,rfl,rfl,b1,b2,b3,W,hfc⟩:=uF (P:=P) hT h L D;obtain rfl:i=0:=by omega
   exact y0 (R.Wf B U Y hu hi b2 b3) W (um hfc)
  cases h
 ·rename_i t O;split at h
  ·rename_i m e sz z l ht hl;split at h
   ·rename_i cs he V;cases h;obtain ⟨pv,B,D⟩:=kP C hl;obtain ⟨us,K,I⟩:=uo (P:=P) (n:=n) (w:=w) (ty:=ty) hT ht (hT _ _ he).1.1 B D V;have e:O.toList.toArray=O:=by simp
    rw [e] at K;exact y0 K ⟨us,rfl,I⟩ aa
   cases h
  cases h
 cases h
theorem vH (hT:bz P G.shp T) (g:ay P G.shp O) (e:oh G ρ H w) {fr:j9} (f:o9 (cx G ρ w) ρ fr F) (h:pv T O H fr op=some r) (c:∀ p ∈ r.ob,p) :
  Yields P n F w op ty fun v d=>Kp [] w d /\ Rt (cx G ρ d) ρ r.v v/\∀ p ∈ r.fc,p:=by
 unfold pv at h;split at h
 ·grind [ZM]
 exact Wp hT e f h c
end
def jW (d:Option Nat) (v:Value) (F:Fr):Fr:=match d with
 | some d=>(d,v) :: F
 | none=>F
def lz (n:Nat):List Oper->Bool
 | []=>true
 | o :: r=>(match o.dst with
  | some d=>Nat.blt d n
  | none=>true) && lz n r
theorem mm {n:Nat}:∀ {l:List Oper},lz n l=true->∀ o ∈ l,∀ d,o.dst=some d->Nat.blt d n=true
 | [],_,_,h,_,_=>by simp at h
 | a :: r,h,o,ho,d,b=>by
  simp [lz] at h;rcases u2.1 ho with rfl | ho
  ·grind
  exact mm h.2 o ho d b
section
variable {P:Program} {Q:Exit->Act->World->Prop} {n:Nat} {l rest:List Oper} {F:Fr} {w:World} {op:Op} {ty:TypeId} {pos:String} {af:Array Edge}
variable {d:Option Nat}
theorem WO.y {φ:Value->World->Prop} (h:Yields P n F w op ty φ) (g:∀ i,d=some i -> Nat.blt i n=true) (k:∀ v e,φ v e -> WO P Q n l rest (jW d v F) e):WO P Q n l (⟨d,op,ty,pos,af,none⟩ :: rest) F w:=by
 cases d with
 | some d=>
  rcases h with ⟨v,e,a,b⟩ | ⟨f,args,a,b⟩
  ·exact WO.v a (g _ rfl) (k v e b)
  exact WO.c a b (g _ rfl) k
 | none=>
  rcases h with ⟨v,e,a,b⟩ | ⟨f,args,a,b⟩
  ·exact WO.v0 a (k v e b)
  exact WO.c0 a b k
variable {i:Nat} {ρ:List RE}
theorem Lx {c:Cx} {fr:j9} (h:o9 c ρ fr F) (a:l1 fr i=none):look F i=none:=by
 induction h with
 | nil=>rfl
 | @cons p q fr F b _ e=>
  obtain ⟨f,g⟩:=q;unfold l1 at a;unfold look;grind
theorem jd {c:Cx} {fr:j9} (h:o9 c ρ fr F) (a:jw fr d=true):∀ b,d=some b -> look F b = none:=by
 rintro b rfl;simp [jw] at a;split at a
 ·rename_i e; exact Lx h e
 cases a
theorem jS {F:Fr} {i:Nat} {v:Value} (b:look F i=some v):∀ {a:Fr},(∀ q ∈ a,look F q.1=none)->look (a++F) i=some v
 | [],_=>b
 | (j,u) :: a,h=>by
  rw [D0,bg];by_cases c:j=i
  ·simp_all
  rw [dc c]; exact jS b fun q e=>h q (by simp [e])
variable {us:Fr}
def WO.drop (h:∀ q ∈ us,look F q.1=none) (k:WO P Q n l rest F w):WO P Q n l rest (us++F) w:=fun a b=>k a (b.sub fun _ _ c=>jS c h)
theorem WO.ZI {x:Nat × Value} (h:∀ q ∈ us,look F q.1=none) (k:WO P Q n l rest (x :: F) w):WO P Q n l rest (x :: (us++F)) w:=fun a c=>k a (c.sub fun i v b=>by
 obtain ⟨j,u⟩:=x;rw [bg] at b ⊢;by_cases e:j=i
 ·grind
 rw [dc e] at b ⊢; exact jS b h)
def LZ (h:∀ q ∈ us,q.1≠i):look (us++F) i=look F i:=BY h
theorem Ad {a b:Option (Nat × Bool)} (h:Vi a b=true):a=b:=by
 unfold Vi at h;split at h
 ·rfl
 ·simp_all
 cases h
theorem uN {F:Fr} {q:Nat × Value}:∀ {us:Fr},q ∈ us->(∀ q ∈ us,q.2=undef)->look (us++F) q.1=some undef
 | (i,u) :: us,e,a=>by
  rw [D0,bg];by_cases b:i=q.1
  ·simp_all
  rw [dc b];refine uN ?_ (fun z c=>a z (by simp [c]));grind
theorem mR {fr:j9} {c:Cx} {ρ:List RE} (C:o9 c ρ fr F) {j t:Nat} {J b:Bool} (s:p5 l j=some t) (u:look F t=some (.bool b)) (v:b = !J):∀ {p:List Oper} {us:Fr},EF l fr j J (us.map (·.1)) p=true->lz n p=true->(∀ q ∈ us,look F q.1=none/\q.2=undef)->WO P Q n l rest F w->WO P Q n l (p++rest) (us++F) w
 | [],us,_,_,a,k=>WO.drop (fun q hq=>(a q hq).1) k
 | o :: r,us,h,G,a,k=>by
  have x:=mm G o aa;have f:lz n r=true:=by simp [lz] at G; exact G.2
  obtain ⟨dst,op,ty,pos,af,g⟩:=o;simp [EF] at h;obtain ⟨⟨O,h2⟩,D⟩:=h;have H:∀ q ∈ us,q.1≠t:=fun q hq e=>by have:=(a q hq).1; rw [e,u] at this; cases this
  have y:look (us++F) t=some (.bool b):=by rw [LZ H]; exact u
  cases g with
  | none=>cases h2
  | some g=>
  simp only [F5,pe,beq_iff_eq] at h2;have m:∀ d,dst=some d->∀ q ∈ ((d,undef) :: us:Fr),look F q.1=none/\q.2=undef:=fun d K q hq=>by
   rcases u2.1 hq with rfl | hq
   ·grind [jd]
   grind
  rcases h2 with ⟨I,L⟩ | h2
  ·have I:=r7 I;subst I; subst L;cases dst with
   | some d=>exact WO.off s y v (x d rfl) (mR C s u v (us:=(d,undef) :: us) D f (m d rfl) k)
   | none=>exact WO.ag7 s y v (mR C s u v D f a k)
  split at h2
  ·rename_i S A;obtain ⟨q,hq,rfl⟩:=K4.1 (bQ.1 h2);have B:look (us++F) q.1=some undef:=uN hq fun z N=>(a z N).2;cases dst with
   | some d=>exact WO.Z4 A B (x d rfl) (mR C s u v (us:=(d,undef) :: us) D f (m d rfl) k)
   | none=>exact WO.aa6 A B (mR C s u v D f a k)
  cases h2
theorem pZ {t:Nat}:∀ {g f e:List Oper} {j:Oper},vn t g=some (f,j,e)->g=f++j :: e/\qy t j=true
 | [],_,_,_,h=>by cases h
 | o :: r,f,e,j,h=>by
  unfold vn at h;cases k:qy t o <;> rw [k] at h
  ·simp at h;split at h
   ·rename_i a b c m;obtain ⟨p,q⟩:=pZ m;grind
   cases h
  grind
theorem od {n:Nat}:∀ {a b:List Oper},lz n (a++b)=true↔lz n a=true/\lz n b=true
 | [],b=>by simp [lz]
 | o :: r,b=>by simp [lz,od,and_assoc]
end
theorem fa:∀ {l:List Prop},kj l↔∀ p ∈ l,p
 | []=>by simp [kj]
 | [p]=>⟨fun h q a=>by rw [A1.1 a]; exact h,fun h=>h p (u3 _)⟩
 | p :: q :: l=>by
  have:=fa (l:=q :: l);simp only [kj,this,List.forall_mem_cons]
variable {e:BE} {w:Bool}
def MV {ob:List Prop} (h:∀ p ∈ qE e w ob,p) (a:e.val=w):∀ p ∈ ob,p:=by
 cases ob with
 | nil=>simp
 | cons p ob=>exact fa.1 (h _ (u3 _) ((BE.fV e w).2 a))
def xv {ob:List Prop} (h:e.val=w->∀ p ∈ ob,p):∀ p ∈ qE e w ob,p:=by
 cases ob with
 | nil=>simp [qE]
 | cons p ob=>
  intro q a;rw [A1.1 a];exact fun b=>fa.2 (h ((BE.fV e w).1 b))
def eA {a:Option TV} (h:rX a=some e):a=some (one (.bool e)):=by
 unfold rX at h;split at h
 ·cases h; rfl
 cases h
section
variable {P:Program} {T:List (Nat × TI)} {G:Gl} {O:ck} {Q:Exit->Act->World->Prop} {n:Nat} {l:List Oper} {ρ:List RE} {H:AH}
def Q2 (l:List Oper) (fr:j9) (g:Option (Nat × Bool)):Prop:=∀ j a,g=some (j,a)->∃ t e,p5 l j=some t/\l1 fr t=some (one (.bool e))/\e.val=a
variable {j:Nat}
theorem dT {i:Nat} {v:TV} {r:j9}:l1 ((j,v) :: r) i=if j=i then some v else l1 r i:=by
 show (bif Nat.beq j i then some v else l1 r i)=_;simp_all
theorem Q2.put {fr:j9} {g:Option (Nat × Bool)} (h:Q2 l fr g) {d:Option Nat} {v:TV} (b:jw fr d=true):Q2 l (rV d v fr) g:=by
 intro j c f;obtain ⟨t,e,i,a,k⟩:=h j c f;refine ⟨t,e,i,?_,k⟩;cases d with
 | none=>exact a
 | some d=>
  show l1 ((d,v) :: fr) t=_;rw [dT,dc]
  ·exact a
  rintro rfl;simp only [jw,a] at b;cases b
variable {w:World} {F:Fr}
def WO.onG {fr:j9} {g:Option (Nat × Bool)} (h:Q2 l fr g) (i:o9 (cx G ρ w) ρ fr F) {A:Fr} (m:∀ x ∈ A,look F x.1=none) {dst:Option Nat} {c:Op} {d:TypeId} {b:String} {f:Array Edge} {a:List Oper}
  (k:WO P Q n l (⟨dst,c,d,b,f,none⟩ :: a) (A++F) w):WO P Q n l (⟨dst,c,d,b,f,g⟩ :: a) (A++F) w:=by
 cases g with
 | none=>exact k
 | some g=>
  obtain ⟨j,o⟩:=g;obtain ⟨t,e,p,q,r⟩:=h j o rfl;obtain ⟨v,s,u⟩:=fq i q;cases u with | bool=>
  exact WO.on p (jS s m) r k
def ajl (P:Program) (G:Gl) (Q:Exit->Act->World->Prop) (n:Nat) (l:List Oper) (ρ:List RE) (H:AH) (d:Option (Nat × Bool)->List Oper->j9->Option GR):Prop:=
 ∀ (g:Option (Nat × Bool)) (b a:List Oper) (fr:j9) (q:GR) (F:Fr) (w:World),d g b fr=some q->Q2 l fr g->(∀ p ∈ q.ob,p)->lz n b=true->oh G ρ H w->o9 (cx G ρ w) ρ fr F ->
  (∀ A c,Kp [] w c -> (∀ p ∈ q.fc,p)->o9 (cx G ρ c) ρ q.fr (A++F)->o9 (cx G ρ c) ρ fr F->(∀ x ∈ A,look F x.1=none)->WO P Q n l a (A++F) c)->WO P Q n l (b++a) F w
def o9.kp {fr:j9} {a:World} (h:o9 (cx G ρ w) ρ fr F) (k:Kp [] w a):o9 (cx G ρ a) ρ fr F:=h.c8 (Kp.le k) (lu.refl _)
def Ij {N:Option (Nat × Bool)->List Oper->j9->Option GR} (T:ajl P G Q n l ρ H N) {g:Option (Nat × Bool)} {S tl:List Oper} {fr:j9} {J:Bool} {r:S4} (h:XZ l fr g N j J S=some r) (hg:Q2 l fr g) (hob:∀ p ∈ r.ob,p) (hd:lz n S=true) (hR:oh G ρ H w) (U:o9 (cx G ρ w) ρ fr F)
  (k:∀ o,Kp [] w o -> (∀ p ∈ r.fc,p)->look F r.d=none->jw fr (some r.d)=true->o9 (cx G ρ o) ρ fr F->Nat.blt r.d n=true->lz n r.tail=true->WO P Q n l (r.tail++tl) ((r.d,.bool r.v.val) :: F) o):WO P Q n l (S++tl) F w:=by
 unfold XZ at h;split at h
 ·rename_i t hj;split at h
  ·rename_i e grp pk K he hs;split at h
   ·rename_i q hck hq;simp at hck;obtain ⟨⟨hoff,B⟩,f⟩:=hck;split at h
    ·rename_i z x y d hpk C;split at h
     ·rename_i v D;cases h;obtain ⟨hops,V⟩:=pZ hs;subst hops;replace B:=Ad B;replace he:=eA he;obtain ⟨vt,hvt,hvr⟩:=fq U he;cases hvr with | bool=>
      obtain ⟨hd1,W⟩:=od.1 hd;have hd3:lz n K=true:=by simp [lz,pe] at W; exact W.2
      have X:Nat.blt d n=true:=mm W pk aa d C;rw [C] at f;have hFd:look F d=none:=jd U f d rfl;obtain ⟨dst,op,ty,pos,af,pg⟩:=pk;simp only at hpk C B;subst hpk; subst C; subst B;have hz:z = .tmp t:=by
       cases z <;> simp only [qy] at V
       ·rw [r7 V]
       all_goals cases V
      subst hz;rw [I4,D0]
      have L:∀ (A:Fr) (o:World) (b:Bool),e.val=b->(∀ u ∈ A,look F u.1=none)->Kp [] w o -> (∀ p ∈ qE e J q.fc,p)->o9 (cx G ρ o) ρ fr F->(∃ u,ev (A++F) (cond b x y)=some (.bool u)/\u=v.val)->WO P Q n l (⟨some d,.pick (.tmp t) x y,ty,pos,af,pg⟩ :: (K++tl)) (A++F) o:=by
       rintro A o b hb hA hk Y I ⟨u,hu,hv2⟩;subst hv2;refine WO.onG (G:=G) (ρ:=ρ) hg I hA ?_;have hl:ev (A++F) (.tmp t)=some (.bool e.val):=jS hvt hA;have key:=WO.ZI (x:=(d,.bool v.val)) hA (k o hk Y hFd f I X hd3);cases b with
       | true=>exact WO.v (R.AM hl hb hu) X key
       | false=>exact WO.v (R.DK hl hb hu) X key
      unfold Jq at D;by_cases i:e.val=J
      ·-- it is N
       refine T (some (j,J)) grp _ fr q F w hq (fun j' o hjw=>by cases hjw; exact ⟨t,e,hj,he,i⟩) (MV hob i) hd1 hR U fun A o hk Y hfq I hA=>?_;refine L A o J i hA hk (xv fun _=>Y) I ?_;split at D
       ·rename_i a s c;cases D;obtain ⟨u,Z,O⟩:=aw hfq (eA s);cases O with | bool=>
        exact ⟨_,Z,by simp [BE.val,i]⟩
       ·rename_i a s c;cases D;obtain ⟨u,Z,O⟩:=aw hfq (eA s);cases O with | bool=>
        exact ⟨_,Z,by simp [BE.val,i]⟩
       cases D
      have m:e.val = !J:=by revert i; cases e.val <;> cases J <;> simp
      refine mR (us:=[]) U hj hvt m hoff hd1 aa ?_;refine L [] w (!J) m aa (Kp.refl w) (xv fun hh=>absurd hh i) U ?_;split at D
      ·rename_i a s c;cases D;obtain ⟨u,Z,O⟩:=aw U (eA c);cases O with | bool=>
       exact ⟨_,Z,by simp [BE.val,m]⟩
      ·rename_i a s c;cases D;obtain ⟨u,Z,O⟩:=aw U (eA c);cases O with | bool=>
       exact ⟨_,Z,by simp [BE.val,m]⟩
      cases D
     cases h
    cases h
   cases h
  cases h
 cases h
theorem pO (hT:bz P G.shp T) (V:ay P G.shp O):∀ m,ajl P G Q n l ρ H (Ll T O l H m)
 | 0=>fun g J b fr q F w h=>by cases J <;> cases h
 | m+1=>by
  intro g J b fr q F w h W u X Y z k;cases J with
  | nil=>
   cases h;exact k [] w (Kp.refl w) aa z z aa
  | cons o I=>
   have N:=mm X o aa;have Z:lz n I=true:=by simp [lz,pe] at X; exact X.2
   unfold Ll at h;split at h
   ·rename_i B;replace B:=Ad B;split at h
    ·rename_i r K S;split at h
     ·rename_i q2 C;cases h;obtain ⟨dst,op,ty,pos,af,og⟩:=o;simp only at B K S N C;subst B;rw [D0];refine WO.onG (A:=[]) (G:=G) (ρ:=ρ) W z aa ?_;change WO P Q n l _ F w;refine WO.y (vH (ty:=ty) hT V Y z S fun p hp=>u p (by simp [hp])) N fun v U ⟨a,hv1,c⟩=>?_;have D:o9 (cx G ρ U) ρ (rV dst r.v fr) (jW dst v F):=by
       cases dst with
       | some d=>exact .cons ⟨rfl,hv1⟩ (z.kp a)
       | none=>exact z.kp a
      refine pO hT V m og I b _ q2 _ U C (W.put K) (fun p hp=>u p (by simp [hp])) Z (Y.kp a) D fun A w2 f i s _ hA=>?_;have L:∀ x ∈ A++jW dst v [],look F x.1=none:=by
       intro x hx;rcases y2.1 hx with hx | hx
       ·have:=hA x hx;cases dst with
        | none=>exact this
        | some d=>
         simp [jW] at this;rw [bg] at this;by_cases t:d=x.1
         ·rw [eg t] at this; cases this
         rw [dc t] at this; exact this
       cases dst with
       | none=>simp [jW] at hx
       | some d=>simp [jW,A1] at hx; subst hx; exact jd z K d rfl
      have e:A++jW dst v F=(A++jW dst v [])++F:=by cases dst <;> simp [jW]
      rw [e] at s ⊢;exact k _ w2 (a.trans f) (fun p hp=>by
       rcases y2.1 hp with hp | hp
       ·exact c p hp
       exact i p hp) s ((z.kp a).kp f) L
     cases h
    cases h
   split at h
   ·rename_i j wt hog;split at h
    ·rename_i r hgr;split at h
     ·rename_i q2 C;cases h;refine Ij (G:=G) (H:=H) (pO hT V m) hgr W (fun p hp=>u p (by simp [hp])) X Y z fun U a c hFd hfd D hbd hdt=>?_;have hf2:o9 (cx G ρ U) ρ ((r.d,one (.bool r.v)) :: fr) ((r.d,.bool r.v.val) :: F):=.cons ⟨rfl,Pd.bool⟩ D;refine pO hT V m g r.tail b _ q2 _ U C (W.put (d:=some r.d) hfd) (fun p hp=>u p (by simp [hp])) hdt (Y.kp a) hf2 fun A w2 f i s _ hA=>?_;have L:∀ x ∈ A++[(r.d,Value.bool r.v.val)],look F x.1=none:=by
       intro x hx;rcases y2.1 hx with hx | hx
       ·have:=hA x hx;rw [bg] at this;by_cases t:r.d=x.1
        ·rw [eg t] at this; cases this
        rw [dc t] at this; exact this
       simp at hx; subst hx; exact hFd
      have e:A++((r.d,Value.bool r.v.val) :: F)=(A++[(r.d,Value.bool r.v.val)])++F:=by simp
      rw [e] at s ⊢;exact k _ w2 (a.trans f) (fun p hp=>by
       rcases y2.1 hp with hp | hp
       ·exact c p hp
       exact i p hp) s (D.kp f) L
     cases h
    cases h
   cases h
end
variable {r:RE} {i:Nat} {ρ:List RE}
def tN {a:RE} (h:ρ[i]? = some a):(ρ++[r])[i]? = some a:=by
 rw [C9 (r3.1 h).1]; exact h
structure s8 (ro:Lv) (ρ:List RE) (w:World) (ρ':List RE) (w':World):Prop where
 ext:u1 ρ w ρ' w'
 loc:∀ (i:Nat) (r:RE),ro.mv i=false->ρ[i]? = some r->ρ'[i]? = some r
 J1:∀ (i:Nat) (r:RE),ro.wr i=false->ρ[i]? = some r->ρ'[i]? = some r/\∀ g,r.g? = some g->w'.heap[g]? = w.heap[g]?
 bx:∀ (i g:Nat),ρ[i]? = some (.blk g)->ρ'[i]? = some (.blk g)
def s8.refl (a:Lv) (ρ:List RE) (w:World):s8 a ρ w ρ w:=⟨u1.refl _ _,fun _ _ _ h=>h,fun _ _ _ h=>⟨h,fun _ _=>rfl⟩,fun _ _ h=>h⟩
def s8.trans {m:Lv} {f j l:List RE} {a b c:World} (h:s8 m f a j b) (k:s8 m j b l c):s8 m f a l c:=
 ⟨h.ext.trans k.ext,fun i r d n=>k.loc i r d (h.loc i r d n),fun i r d n=>by
  obtain ⟨p,q⟩:=h.J1 i r d n;obtain ⟨s,t⟩:=k.J1 i r d p;exact ⟨s,fun g o=>(t g o).trans (q g o)⟩,fun i g d=>k.bx i g (h.bx i g d)⟩
def s8.kp {b:Lv} {G:Gl} {H:AH} {ρ:List RE} {w a:World} (c:oh G ρ H w) (k:Kp [] w a):s8 b ρ w ρ a:=
 ⟨u1.kp k,fun _ _ _ h=>h,fun _ r _ h=>⟨h,fun g d=>k.block g (c.sr _ r g h d).2.1 aa⟩,fun _ _ h=>h⟩
theorem s8.p4 {c:Lv} {G:Gl} {H:AH} {ρ:List RE} {w a:World} {r:RE} (d:oh G ρ H w) (k:Kp [] w a) (f:∀ b,r.g? = some b -> w.heap.size<=b):s8 c ρ w (ρ++[r]) a:=
 ⟨u1.p4 k f,fun _ _ _ h=>tN h,fun i j _ h=>⟨tN h,fun g l=>k.block g (d.sr _ j g h l).2.1 aa⟩,fun _ _ h=>tN h⟩
section
variable {c c':Cx} {ρ ρ':List RE} {g:AV->AV}
variable {vs:List Value}
def HC (d:∀ a v,Rd c ρ a v->Rd c' ρ' (g a) v) {b:List AV} (h:hQ (Rd c ρ) b vs):hQ (Rd c' ρ') (tf g b) vs:=by
 induction h with
 | nil=>exact .nil
 | cons h _ f=>exact .cons (d _ _ h) f
def yu (b:∀ a v,Rd c ρ a v->Rd c' ρ' (g a) v) {t:n8} {v:Value} (h:dJ c ρ t v):dJ c' ρ' (t.mapA g) v:=by
 cases t with
 | c a=>exact b _ _ h
 | agg l=>obtain ⟨vs,rfl,h⟩:=h; exact ⟨vs,rfl,HC b h⟩
def Iu (d:∀ a v,Rd c ρ a v->Rd c' ρ' (g a) v) {b:List n8} (h:hQ (dJ c ρ) b vs):hQ (dJ c' ρ') (yU g b) vs:=by
 induction h with
 | nil=>exact .nil
 | cons h _ f=>exact .cons (yu d h) f
def tC (d:∀ a v,Rd c ρ a v->Rd c' ρ' (g a) v) {fr:j9} {F:Fr} (h:o9 c ρ fr F):o9 c' ρ' (jK g fr) F:=by
 induction h with
 | nil=>exact .nil
 | @cons p q fr F h _ f=>
  obtain ⟨i,t⟩:=p;refine .cons ⟨h.1,?_⟩ f;have b:=h.2;cases t with
  | one t=>exact yu d b
  | C4 l=>obtain ⟨vs,e,b⟩:=b; exact ⟨vs,e,Iu d b⟩
  | un=>trivial
theorem sK:∀ l:List (Int × AV),mapM g l=l.map fun q=>(q.1,g q.2)
 | []=>rfl
 | (k,a) :: r=>by simp [mapM,sK r]
theorem mL:∀ {H:AH} {i:Nat},(iJ g H)[i]? = (H[i]?).map (AO.mapA g)
 | [],i=>by simp [iJ]
 | o :: r,0=>by simp [iJ]
 | o :: r,i+1=>by simpa [iJ] using mL (H:=r) (i:=i)
theorem fG:∀ {H:AH},(iJ g H).length=H.length
 | []=>rfl
 | _ :: r=>by simp [iJ,fG]
def OR.map (p:c.le c') (x:∀ a v,Rd c ρ a v->Rd c' ρ' (g a) v) {o:AO} {r:RE} (h:OR c ρ o r) (j:∀ g,r.g? = some g->c'.w.heap[g]? = c.w.heap[g]?):OR c' ρ' (o.mapA g) r:=by
 cases o with
 | gone=>exact h
 | q7 s f=>
  obtain ⟨b,rfl,h⟩:=h;exact ⟨b,rfl,h.c8 p (j b rfl)⟩
 | loc=>trivial
 | p7 l=>
  obtain ⟨b,rfl,h⟩:=h;exact ⟨b,rfl,h.map (g0:=g) (sK l) (fun _ _ v h=>x _ v h) (j b rfl)⟩
 | y9 t s n y=>
  obtain ⟨b,vs,rfl,k,m,q⟩:=h;exact ⟨b,vs,rfl,(j b rfl).trans k,m.c8 p,q⟩
 | box t D=>
  obtain ⟨b,vs,rfl,k,m⟩:=h;exact ⟨b,vs,rfl,(j b rfl).trans k,HC x m⟩
 | row t s y=>
  obtain ⟨k,m,q⟩:=h;refine ⟨p.shp ▸ k,m,q.imp id ?_⟩;rintro ⟨b,u,d,z,rfl,A,B,C⟩;exact ⟨b,u,d,z,rfl,(j b rfl).trans A,B.c8 p,C⟩
end
def jC {j:Nat} (a:i≠j):(ρ.set i r)[j]? = ρ[j]?:=L8 a
theorem AE {b:Nat} (h:live (ρ.set i r) b):live ρ b\/r.g? = some b:=by
 obtain ⟨j,d,c,f⟩:=h;by_cases a:i=j
 ·grind
 rw [jC a] at c; exact .inl ⟨j,d,c,f⟩
section
variable {G:Gl} {ρ:List RE} {H:AH} {w:World}
variable {t:TypeId}
def nI (a:oh G ρ H w) {s:Sh} {f:List (l5 s)} (b:l4 H i = .row t s f):(∀ g,ρ[i]? ≠ some (.blk g))/\i<ρ.length/\i<H.length:=by
 have j:=cq b aa;have c:=(r3.1 j).1;refine ⟨fun g d=>?_,by rw [<- a.obj.length]; exact c,c⟩;rcases cc a b with ⟨h,_⟩ | ⟨_,_,_,_,h,_⟩ <;> rw [h] at d <;> cases d
variable {ro:Lv}
def al3 (C:oh G ρ H w) {s:Sh} {O:List (l5 s)} (hi:l4 H i = .row t s O) (hro:ro.mv i=true) (P:ro.wr i=true) :
  (∀ a v,Rd (cx G ρ w) ρ a v->Rd (cx G (ρ.set i .no) w) (ρ.set i .no) (a.LC H i) v)/\oh G (ρ.set i .no) ((iJ (AV.LC H i) H).set i .gone) w/\s8 ro ρ w (ρ.set i .no) w/\(cx G ρ w).le (cx G (ρ.set i .no) w):=by
 obtain ⟨K,F,hiH⟩:=nI C hi;have J:u1 ρ w (ρ.set i .no) w:=⟨rfl,rfl,rfl,sh _,fun b _ hl=>⟨fun h=>(AE h).elim hl (by rintro ⟨⟩),rfl⟩⟩;have d:=J.le C.lo;have u:∀ j r,i≠j->ρ[j]? = some r->(ρ.set i .no)[j]? = some r:=fun j r c h=>by rw [jC c]; exact h
 have B:∀ q v,eQ ρ q v->eQ (ρ.set i .no) q v:=fun q v ⟨g,m,y⟩=>⟨g,u _ _ (fun e=>K g (e ▸ m)) m,y⟩;have Q:∀ a v,Rd (cx G ρ w) ρ a v->Rd (cx G (ρ.set i .no) w) (ρ.set i .no) (a.LC H i) v:=by
  intro a v h;have T:∀ g p len z,ρ[i]? = some (.row g p len z)->(cx G (ρ.set i .no) w).S g:=fun g p len z m=>by
   have D:=C.sr _ _ g m rfl;refine ⟨D.2.1,fun hl=>?_,D.2.2⟩;obtain ⟨j,r',y,L⟩:=hl;by_cases c:i=j
   ·subst c; rw [E8 F] at y; cases y; cases L
   rw [jC c] at y; exact c (C.inj _ _ _ _ g m y rfl L)
  cases a with
  | own j=>
   simp [AV.LC];cases D:Nat.beq i j
   ·have c:i≠j:=by rintro rfl; simp at D
    rcases h with ⟨g,p,len,z,h,e⟩ | ⟨h,e⟩
    ·exact .inl ⟨g,p,len,z,u _ _ c h,e⟩
    exact .inr ⟨u _ _ c h,e⟩
   have c:=r7 D;subst c;simp;have U:(AV.own i).vw H = .fz s O:=by simp [AV.vw,hi]
   rw [U];refine lV (oI C d rfl h (fun g p len z ⟨id,I,m⟩=>?_) U);rcases I with I | ⟨_,_,I⟩ <;> cases I;exact T g p len z m
  | sub j o k=>
   simp [AV.LC];cases D:Nat.beq i j
   ·have c:i≠j:=by rintro rfl; simp at D
    rcases h with ⟨g,p,len,z,h,e⟩ | ⟨h,e⟩
    ·exact .inl ⟨g,p,len,z,u _ _ c h,e⟩
    exact .inr ⟨u _ _ c h,e⟩
   have c:=r7 D;subst c;simp;have U:(AV.sub i o k).vw H = .fz s ((O.drop o).take k):=by simp [AV.vw,hi]
   rw [U];refine lV (oI C d rfl h (fun g p len z ⟨id,I,m⟩=>?_) U);rcases I with I | ⟨_,_,I⟩ <;> cases I;exact T g p len z m
  | x8 j k o=>
   simp [AV.LC];cases D:Nat.beq i j
   ·have c:i≠j:=by rintro rfl; simp at D
    obtain ⟨g,p,len,z,h,e⟩:=h;exact ⟨g,p,len,z,u _ _ c h,e⟩
   exact Rd.one h
  | ptr j o=>exact B _ _ h
  | mq j=>
   obtain ⟨g,m,e⟩:=h;exact ⟨g,u _ _ (fun e=>K g (e ▸ m)) m,e⟩
  | fn f b cs=>
   obtain ⟨bs,us,m,y,e⟩:=h;exact ⟨bs,us,m.imp fun _ _ h=>B _ _ h,y.imp fun _ _ h=>B _ _ h,e⟩
  | fe s' x o=>
   obtain ⟨A,N,m,y,L,e⟩:=h;exact ⟨A,N,(d.S _ m).1,y,L.c8 d,e⟩
  | np=>exact h
  | nf=>exact h
  | yl l=>exact h
  | xx k cs=>
   obtain ⟨us,m,y⟩:=h;exact ⟨us,m.imp fun _ _ h=>B _ _ h,y.le d⟩
  | dead=>exact h
  | int n=>exact Pd.c8 h d
  | u8 b=>exact Pd.c8 h d
  | u64 n=>exact Pd.c8 h d
  | bool e=>exact Pd.c8 h d
  | str s=>exact Pd.c8 h d
  | em b=>exact Pd.c8 h d
  | li nw O=>exact Pd.c8 h d
  | fz s O=>exact Pd.c8 h d
 refine ⟨Q,⟨df (by simp [fG,C.obj.length]) fun j o r V hr=>?_,fun a b r r' g m y L h4=>?_,fun j r g m y=>?_,C.z,C.b0,C.tb.c8 d⟩,⟨J,fun j r W h=>u j r (by rintro rfl; rw [hro] at W; cases W) h,fun j r W h=>⟨u j r (by rintro rfl; rw [P] at W; cases W) h,fun _ _=>rfl⟩,fun j g h=>u j _ (fun e=>K g (e ▸ h)) h⟩,d⟩
 ·by_cases c:i=j
  ·subst c;rw [E8 (by rw [fG]; exact hiH)] at V;rw [E8 F] at hr;cases V; cases hr;rfl
  rw [L8 c,mL] at V;rw [jC c] at hr;rw [G4] at V;obtain ⟨o',ho',rfl⟩:=V;obtain ⟨r',X,hor⟩:=C.at_ ho';rw [hr] at X; cases X;exact hor.map d Q fun _ _=>rfl
 ·have Y:∀ (a:Nat) (r:RE),(ρ.set i .no)[a]? = some r->r.g? = some g->ρ[a]? = some r:=fun a r m y=>by
   by_cases Z:i=a
   ·subst Z; rw [E8 F] at m; cases m; cases y
   rw [jC Z] at m; exact m
  exact C.inj a b r r' g (Y a r m L) (Y b r' y h4) L h4
 by_cases c:i=j
 ·subst c; rw [E8 F] at m; cases m; cases y
 rw [jC c] at m; exact C.sr j r g m y
def aj1 {j:Nat} (a:i≠j) {s:Sh} {b:List (l5 s)} (h:l4 H j = .row t s b):l4 ((iJ (AV.LC H i) H).set i .gone) j = .row t s b:=by
 have:=cq h aa;unfold l4;rw [ts,L8 a,mL,this];rfl
theorem iT {ro:Lv} {F:Fr}:∀ {l:List Nat} {fr:j9} {H:AH} {ρ:List RE} {q:j9 × AH},jA ro l fr H=some q->oh G ρ H w->o9 (cx G ρ w) ρ fr F ->
  ∃ c,s8 ro ρ w c w/\(cx G ρ w).le (cx G c w)/\oh G c q.2 w/\o9 (cx G c w) c q.1 F/\q.2.length=H.length /\
   (∀ (n:AH) a v,(∀ i,(a = .own i\/∃ o k,a = .sub i o k)->i ∈ l/\∃ t s xs,l4 n i = .row t s xs)->((Rd (cx G ρ w) ρ a v/\∀ i,(a = .own i\/∃ o k,a = .sub i o k)->l4 H i=l4 n i)\/Pd (cx G ρ w) (a.vw n) v)->(∀ i,a ≠ .own i/\∀ o k,a ≠ .sub i o k)\/Pd (cx G c w) (a.vw n) v) /\
   (∀ i o,i ∉ l->H[i]? = some o->((∀ t O,o ≠ .box t O)/\∀ l,o ≠ .p7 l)->q.2[i]? = some o)/\(∀ i,i ∉ l->c[i]? = ρ[i]?)
 | [],fr,H,ρ,q,h,K,L=>by
  cases h;refine ⟨ρ,s8.refl _ _ _,Cx.le.refl _,K,L,rfl,fun n a v f h=>?_,fun i o _ h _=>h,fun _ _=>rfl⟩;by_cases b:∃ i,a = .own i\/∃ o k,a = .sub i o k
  ·obtain ⟨i,N⟩:=b;have:=(f i N).1;simp at this
  left;intro i;exact ⟨fun e=>b ⟨i,.inl e⟩,fun o k e=>b ⟨i,.inr ⟨o,k,e⟩⟩⟩
 | i :: l,fr,H,ρ,q,h,K,L=>by
  unfold jA at h;split at h
  ·rename_i t s xs N;split at h
   ·rename_i u;simp at u;obtain ⟨x,P,Q,A⟩:=al3 K N (ro:=ro) u.1 u.2;obtain ⟨c,S,B,T,U,V,h6,W,X⟩:=iT h P (tC x L);refine ⟨c,Q.trans S,A.trans B,T,U,by rw [V]; simp [fG],fun n a v f hd=>?_,fun j o d ho C=>?_,fun j d=>?_⟩
    ·-- the element's cell
     by_cases b:∃ j,a = .own j\/∃ o k,a = .sub j o k
     ·obtain ⟨j,d⟩:=b;right;have p:Pd (cx G (ρ.set i .no) w) (a.vw n) v\/(Rd (cx G (ρ.set i .no) w) (ρ.set i .no) a v/\i≠j/\l4 H j=l4 n j):=by
       rcases hd with ⟨hd,D⟩ | hd
       ·have e:=D j d;by_cases m:i=j
        ·subst m;left;have I:=x a v hd;have hv:a.vw H=a.vw n:=by rcases d with rfl | ⟨o,k,rfl⟩ <;> simp [AV.vw,e]
         have Y:a.LC H i=a.vw H:=by rcases d with rfl | ⟨o,k,rfl⟩ <;> simp [AV.LC]
         rw [Y,hv] at I;have hp:(a.vw n).plain=true:=by
          rw [<- hv];rcases d with rfl | ⟨o,k,rfl⟩ <;> simp [AV.vw,N,AV.plain]
         exact (iZ hp).1 I
        right;have I:=x a v hd;have Y:a.LC H i=a:=by
         have C:Nat.beq i j=false:=by rw [<- Bool.not_eq_true,Nat.beq_eq]; exact m
         rcases d with rfl | ⟨o,k,rfl⟩ <;> simp [AV.LC,C]
        rw [Y] at I;exact ⟨I,m,e⟩
       exact .inl (hd.c8 A)
      rcases p with p | ⟨p,m,e⟩
      ·-- done; c8 on
       exact p.c8 B
      obtain ⟨hm,Z,r,xx,g⟩:=f j d;have hml:j ∈ l:=by
       rcases u2.1 hm with e2 | hm
       ·exact absurd e2.symm m
       exact hm
      have y:l4 H j = .row Z r xx:=e.trans g;refine (h6 n a v (fun j' z=>?_) (.inl ⟨p,fun j' z=>?_⟩)).resolve_left fun hh=>?_
      ·have:j' = j:=by rcases d with rfl | ⟨o,k,rfl⟩ <;> rcases z with J | ⟨_,_,J⟩ <;> cases J <;> rfl
       subst this; exact ⟨hml,Z,r,xx,g⟩
      ·have:j' = j:=by rcases d with rfl | ⟨o,k,rfl⟩ <;> rcases z with J | ⟨_,_,J⟩ <;> cases J <;> rfl
       subst this;rw [aj1 m y,g]
      rcases d with rfl | ⟨o,k,rfl⟩
      ·exact (hh j).1 rfl
      exact (hh j).2 _ _ rfl
     left;intro i;exact ⟨fun e=>b ⟨i,.inl e⟩,fun o k e=>b ⟨i,.inr ⟨o,k,e⟩⟩⟩
    ·simp at d;refine W j o d.2 ?_ C;rw [L8 (Ne.symm d.1),mL,ho];cases o with
     | box t O=>exact absurd rfl (C.1 t O)
     | p7 l=>exact absurd rfl (C.2 l)
     | _=>rfl
    simp at d;rw [X j d.2,jC (Ne.symm d.1)]
   cases h
  rename_i hnr;obtain ⟨c,S,B,T,U,V,h6,W,X⟩:=iT h K L;refine ⟨c,S,B,T,U,V,fun n a v f hd=>?_,fun j o d=>W j o fun hm=>d (by simp [hm]),fun j d=>X j fun hm=>d (by simp [hm])⟩;by_cases b:∃ j,a = .own j\/∃ o k,a = .sub j o k
  ·obtain ⟨j,d⟩:=b;obtain ⟨hm,Z,r,xx,g⟩:=f j d;rcases hd with ⟨hd,D⟩ | hd
   ·grind
   exact .inr (hd.c8 B)
  left;intro i;exact ⟨fun e=>b ⟨i,.inl e⟩,fun o k e=>b ⟨i,.inr ⟨o,k,e⟩⟩⟩
theorem qa {fr:j9} {F:Fr} {l:List Nat} {q:j9 × AH} (h:jA ro l fr H=some q) (A:oh G ρ H w) (B:o9 (cx G ρ w) ρ fr F) :
  ∃ b,s8 ro ρ w b w/\(cx G ρ w).le (cx G b w)/\oh G b q.2 w/\o9 (cx G b w) b q.1 F/\q.2.length=H.length /\
   (∀ (c:List AV) (p:List Value),(∀ i ∈ fy c,i ∈ l)->hQ (Rd (cx G ρ w) ρ) c p->hQ (Qd (cx G b w)) (IM H c) p)/\(∀ i o,i ∉ l->H[i]? = some o->((∀ t C,o ≠ .box t C)/\∀ l,o ≠ .p7 l)->q.2[i]? = some o)/\(∀ i,i ∉ l->b[i]? = ρ[i]?):=by
 obtain ⟨b,D,y,I,J,K,L,N,O⟩:=iT h A B;refine ⟨b,D,y,I,J,K,fun c p f P=>?_,N,O⟩;induction P with
 | nil=>exact .nil
 | @cons a v c p g _ Q=>
  refine .cons ?_ (Q fun i m=>f i (by cases a <;> simp [fy,m]));intro u;by_cases d:∃ i,a = .own i\/∃ o k,a = .sub i o k
  ·obtain ⟨i,m⟩:=d;have n:∃ t s x,l4 H i = .row t s x:=by
    cases S:l4 H i with
    | row t s x=>exact ⟨t,s,x,rfl⟩
    | _=>rcases m with rfl | ⟨o,k,rfl⟩ <;> simp [AV.vw,S,AV.plain] at u
   refine (L H a v (fun j T=>?_) (.inl ⟨g,fun _ _=>rfl⟩)).resolve_left fun U=>?_
   ·have:j=i:=by rcases m with rfl | ⟨o,k,rfl⟩ <;> rcases T with z | ⟨_,_,z⟩ <;> cases z <;> rfl
    subst this;refine ⟨f j ?_,n⟩;rcases m with rfl | ⟨o,k,rfl⟩ <;> simp [fy]
   grind
  have e:a.vw H=a:=by
   cases a <;> first | rfl | exact absurd ⟨_,.inl rfl⟩ d | exact absurd ⟨_,.inr ⟨_,_,rfl⟩⟩ d
  rw [e] at u ⊢;exact ((iZ u).1 g).c8 y
end
def fp (P:Program) (n:Nat) (F:Fr) (w:World) (a:Op) (b:TypeId) (c:Value->World->Prop):Prop:=
 Yields P n F w a b c\/(D8 a=true/\∃ d,ji P n F w a b d /\ c undef d)
def fw (G:Gl) (c:Lv) (ρ:List RE) (w:World) (r:SR) (F:Fr) (v:Value) (b:World):Prop:=
 ∃ a,s8 c ρ w a b /\ oh G a r.H b /\ o9 (cx G a b) a r.fr F/\Rt (cx G a b) a r.v v/\∀ p ∈ r.fc,p
section
variable {P:Program} {T:List (Nat × TI)} {G:Gl} {O:ck} {n:Nat} {F:Fr} {w:World} {x y:Operand} {ty t:TypeId} {ρ:List RE} {H:AH} {fr:j9} {ro:Lv}
theorem R.box {v:Value} {c:List Value} (d:ev F x=some v) (b:v.cells=c.toArray):aL P n F w (.box t x) ty (.pointer (some ⟨w.heap.size,0,none⟩)) (w.alloc (.cells c.toArray t)):=
 fun a _ _ _ _ f=>by simp [execOp,f.ev d,Instr.box,newVar,newRow,b]
theorem R.alloc {d:List Value} (f:((P.info? t).bind (·.zero)).map Value.cells=some d.toArray):aL P n F w (.alloc t) ty (.pointer (some ⟨w.heap.size,0,none⟩)) (w.alloc (.cells d.toArray t)):=fun a _ _ _ _ _=>by
 cases c:P.info? t with
 | none=>simp [c] at f
 | some i=>
  cases b:i.zero with
  | none=>simp [c,b] at f
  | some z=>
   have:z.cells=d.toArray:=by simpa [c,b] using f
   simp [execOp,Instr.alloc,newVar,newRow,zeroValue,typeInfo,c,b,this]
variable {us:List Value} {cs:List AV}
def Wr {c:Cx} {g:Nat} (f:c.w.heap[g]? = some (.cells us.toArray t (0,0))) (b:hQ (Rd c ρ) cs us):OR c ρ (Rh T t cs) (.blk g):=by
 have d:OR c ρ (.box t cs) (.blk g):=⟨g,us,rfl,f,b⟩;unfold Rh;split
 ·split
  ·split
   ·split
    ·rename_i a;simp only [pe] at a;exact ⟨g,us,rfl,f,mb ap b,r7 a.1,r7 a.2⟩
    exact d
   exact d
  exact d
 exact d
def xS (d:oh G ρ H w) (k:o9 (cx G ρ w) ρ fr F) (f:hQ (Rd (cx G ρ w) ρ) cs us):fw G ro ρ w ⟨one (.ptr H.length 0),fr,H++[Rh T t cs],[],[]⟩ F (.pointer (some ⟨w.heap.size,0,none⟩)) (w.alloc (.cells us.toArray t)):=by
 have j:=Kp.alloc w (.cells us.toArray t);have a:u1 ρ w (ρ++[.blk w.heap.size]) (w.alloc (.cells us.toArray t)):=u1.p4 j fun g b=>by cases b; exact sh _
 have c:=a.le d.lo;refine ⟨ρ++[.blk w.heap.size],s8.p4 d j (fun g b=>by cases b; exact sh _),d.p4 j (fun g b=>by cases b; exact ⟨sh _,aa⟩) (Wr (J6 w _) (f.imp fun _ _ h=>h.c8 c (gO _ _))),k.c8 c (gO _ _),⟨w.heap.size,by rw [d.obj.length]; simp,rfl⟩,aa⟩
def R.store {g o:Nat} {d:TypeId} {b us:List Value} {v:Value} (k:ev F x=some (.pointer (some ⟨g,o,none⟩))) (l:ev F y=some v) (m:w.heap[g]? = some (.cells (toArray b) d (0,0))) (p:v.cells=us.toArray) (q:∀ u ∈ us,u.oneCell' = true) (f:(P.info? t).map (·.size)=some us.length) (s:o+us.length<=b.length) :
  ji P n F w (.store t x y) ty (w.setRow g (b.take o++us++b.drop (o+us.length)).toArray):=fun a _ _ _ _ h=>by
 have j:=run_storeCells_at (P:=P) g o d us 0 b.toArray w m (by simpa using s) q;cases c:P.info? t with
 | none=>simp [c] at f
 | some i=>
  have z:i.size=us.length:=by simpa [c] using f
  simp [execOp,h.ev k,h.ev l,Instr.storeAt,Instr.sureAddr,storeVar,sizeOf,typeInfo,c,z,p] at j ⊢;simp [j]
def CL (hT:bz P G.shp T) (Q:oh G ρ H w) (hf:o9 (cx G ρ w) ρ fr F) {a:AV} {b:n8} {va vb:Value} {r:SR} {ti:TI} (ht:bj T t=some ti) (hsz:Nat.beq ti.size b.cells.length=true) (ha:Rd (cx G ρ w) ρ a va) (hb:dJ (cx G ρ w) ρ b vb) (hx:ev F x=some va) (hy:ev F y=some vb) (h:Fe ro fr H a b=some r) (hob:∀ p ∈ r.ob,p) :
  ∃ w',ji P n F w (.store t x y) ty w' /\ fw G ro ρ w r F undef w':=by
 have hsz:=r7 hsz;obtain ⟨us,hus,U⟩:=dJ.cells hb;have hul:=U.length;have h1:∀ u ∈ us,u.oneCell' = true:=fun u hu=>by
  obtain ⟨i,hi⟩:=List.getElem?_of_mem hu;obtain ⟨a',_,h⟩:=U.get i u hi;exact Rd.one h
 have K:(P.info? t).map (·.size)=some us.length:=by rw [(hT _ _ ht).1.1,hsz,hul]
 unfold Fe at h;split at h
 ·-- a box
  rename_i id o;split at h
  ·rename_i tb cs hH;split at h
   ·rename_i B;cases h;simp only [pe] at B;have V:=B.1;have hlen:=F4 B.2;have J:=cq hH aa;obtain ⟨r,X,g,C,rfl,Z,h3⟩:=Q.at_ J;obtain ⟨L,f,rfl⟩:=ha;rw [X] at f; cases f;have hvl:=h3.length;refine ⟨_,R.store hx hy Z hus h1 K az,ρ,?_⟩;have d:=Kp.setRow w g (C.take o++us++C.drop (o+us.length)).toArray;have N:(w.setRow g (C.take o++us++C.drop (o+us.length)).toArray).heap[g]? = some (.cells (C.take o++us++C.drop (o+us.length)).toArray tb (0,0)):=D2 w g _ _ tb _ Z;have D:u1 ρ w ρ (w.setRow g (C.take o++us++C.drop (o+us.length)).toArray):=⟨d.os,d.tape,d.output,d.size,fun b hb e=>⟨e,d.block b hb (by
     simp;rintro rfl;exact e ⟨id,_,X,rfl⟩)⟩⟩
    have I:=D.le Q.lo;have k:=Q.put J X rfl d (o':=.box tb (D9 cs o b.cells)) ⟨g,_,rfl,N,by
     unfold D9;rw [hul];exact (((h3.take o).append U).append (h3.drop _)).imp fun _ _ h=>h.c8 I (lu.refl _)⟩
    refine ⟨⟨k.2,fun _ _ _ h=>h,fun i r' hi A=>⟨A,fun L f=>d.block L (Q.sr i r' L A f).2.1 ?_⟩,fun _ _ h=>h⟩,k.1,hf.c8 I (lu.refl _),trivial,aa⟩;simp;rintro rfl;have:=Q.inj i id _ _ L A X f rfl;subst this; rw [V] at hi; cases hi
   cases h
  ·-- an array
   rename_i ta s m S hH;split at h
   ·rename_i a1 B hcell;split at h
    ·rename_i x' hpl hof;cases h;simp only [pe] at B;have V:=B.1;have W:=r7 B.2;have ho:=hob _ (u3 _);have J:=cq hH aa;obtain ⟨r,X,g,C,rfl,Z,h3,h4,h5⟩:=Q.at_ J;obtain ⟨L,f,rfl⟩:=ha;rw [X] at f; cases f;rw [hcell] at U;cases U with | @cons _ u _ _ hu1 hu2=>
     cases hu2;have hvl:C.length=m:=by rw [<- h3.length,cz,h4,W,M1]
     have hlu:[u].length=1:=rfl;have d:=Kp.setRow w g (C.take o++[u]++C.drop (o+[u].length)).toArray;have N:(w.setRow g (C.take o++[u]++C.drop (o+[u].length)).toArray).heap[g]? = some (.cells (C.take o++[u]++C.drop (o+[u].length)).toArray ta (0,0)):=D2 w g _ _ ta _ Z;have D:u1 ρ w ρ (w.setRow g (C.take o++[u]++C.drop (o+[u].length)).toArray):=⟨d.os,d.tape,d.output,d.size,fun b hb e=>⟨e,d.block b hb (by
      simp;rintro rfl;exact e ⟨id,_,X,rfl⟩)⟩⟩
     have I:=D.le Q.lo;have hxo:S[o]? = some (S.getD o (c5 s)):=by
      rw [ts,p6 az]; rfl
     have hsp:p0 (cx G ρ w) (cellsOf s x') [u]:=aV hof (.cons (fun hp=>(iZ hp).1 hu1) .nil);have hnew:p0 (cx G ρ w) ((S.set o x').flatMap (cellsOf s)) (C.take o++[u]++C.drop (o+[u].length)):=by
      rw [BC hxo];have f1:=bU h3 o;have f2:=cC h3 (o+1);rw [W,M1] at f1 f2;exact (f1.append hsp).append f2
     have k:=Q.put J X rfl d (o':=.y9 ta s m (S.set o x')) ⟨g,_,rfl,N,hnew.c8 I,by rw [B8]; exact h4,W⟩;refine ⟨_,R.store hx hy Z hus h1 K (by rw [hlu]; omega),ρ,⟨k.2,fun _ _ _ h=>h,fun i r' hi A=>⟨A,fun L f=>d.block L (Q.sr i r' L A f).2.1 ?_⟩,fun _ _ h=>h⟩,k.1,hf.c8 I (lu.refl _),trivial,aa⟩;simp;rintro rfl;have:=Q.inj i id _ _ L A X f rfl;subst this; rw [V] at hi; cases hi
    cases h
   ·-- all of it
    rename_i B hne;split at h
    ·rename_i l ho e;split at h
     ·rename_i hln;cases h;simp only [pe] at B;have V:=B.1;have W:=r7 B.2;have ho:=r7 ho;subst ho;have hln:=r7 hln;have J:=cq hH aa;obtain ⟨r,X,g,C,rfl,Z,h3,h4,h5⟩:=Q.at_ J;obtain ⟨L,f,rfl⟩:=ha;rw [X] at f; cases f;have hpd:=mb e U;have hul2:us.length=m:=by rw [<- hpd.length,cz,hln,W,M1]
      have hvl:C.length=m:=by rw [<- h3.length,cz,h4,W,M1]
      have he:C.take 0++us++C.drop (0+us.length)=us:=by
       rw [T2,T0,O0 az,A3]
      have hst:=R.store (P:=P) (n:=n) (F:=F) (w:=w) (t:=t) (ty:=ty) hx hy Z hus h1 K az;rw [he] at hst;have d:=Kp.setRow w g us.toArray;have N:(w.setRow g us.toArray).heap[g]? = some (.cells us.toArray ta (0,0)):=D2 w g _ _ ta _ Z;have D:u1 ρ w ρ (w.setRow g us.toArray):=⟨d.os,d.tape,d.output,d.size,fun b hb e=>⟨e,d.block b hb (by
       simp;rintro rfl;exact e ⟨id,_,X,rfl⟩)⟩⟩
      have I:=D.le Q.lo;have k:=Q.put J X rfl d (o':=.y9 ta s m l) ⟨g,_,rfl,N,hpd.c8 I,hln,W⟩;refine ⟨_,hst,ρ,⟨k.2,fun _ _ _ h=>h,fun i r' hi A=>⟨A,fun L f=>d.block L (Q.sr i r' L A f).2.1 ?_⟩,fun _ _ h=>h⟩,k.1,hf.c8 I (lu.refl _),trivial,aa⟩;simp;rintro rfl;have:=Q.inj i id _ _ L A X f rfl;subst this; rw [V] at hi; cases hi
     cases h
    cases h
   cases h
  cases h
 ·-- an element of a row
  rename_i id i o;split at h
  ·rename_i tb s S hH;split at h
   ·rename_i x' q B hof hfz;cases h;simp only [pe,S9,<- Bool.not_eq_true,bQ] at B;obtain ⟨⟨V,hlen⟩,hnm⟩:=B;have hlen:=F4 hlen;obtain ⟨O,k1,k2,k3,k4,k5,k6,k7,k8⟩:=qa hfz Q hf;obtain ⟨g,cap,len,z,Z,h3,rfl⟩:=ha;have J:=cq hH aa;rcases cc Q hH with ⟨h0,_⟩ | ⟨L,cap',c,sp,h4,h5,h6,h7,h8,h9⟩
    ·rw [h0] at Z; cases Z
    rw [h4] at Z; cases Z;have Y:=dZ Q hH;have hxi:S[i]? = some (S.getD i (c5 s)):=oO h3;have hcl:c.length=S.length*s.size:=by rw [<- h6.length,cz]
    have hmul:(i+1)*s.size<=S.length*s.size:=H4 _ h3;rw [I9] at hmul;have hρ1:O[id]? = some (.row g cap S.length s.size):=by rw [k8 id hnm]; exact h4
    have hH1:q.2[id]? = some (.row tb s S):=k7 id _ hnm J aa
    have hel:hQ (Rd (cx G ρ w) ρ) (cellsOf s (S.getD i (c5 s))) ((c.drop (i*s.size)).take s.size):=by
     have:=(h6.drop (i*s.size)).take s.size;rw [pt hxi] at this;exact iv this
    have hell:=hel.length;rw [dz] at hell;have hnew:hQ (Qd (cx G O w)) (D9 (cellsOf s (S.getD i (c5 s))) o (IM H b.cells)) (((c.drop (i*s.size)).take s.size).take o++us++((c.drop (i*s.size)).take s.size).drop (o+us.length)):=by
     have hvl:(IM H b.cells).length=us.length:=by
      rw [<- hul];generalize b.cells=l;induction l with
      | nil=>rfl
      | cons a l ih=>simp [IM,ih]
     unfold D9;rw [hvl];have hq:hQ (Qd (cx G O w)) (cellsOf s (S.getD i (c5 s))) ((c.drop (i*s.size)).take s.size):=hel.imp fun a v h hp=>((iZ hp).1 h).c8 k2;exact ((hq.take o).append (k6 _ _ (fun j hj=>hj) U)).append (hq.drop _)
    have hsp:=aV hof hnew;have hcur:c.take (i*s.size+o)++us++c.drop (i*s.size+o+us.length)=c.take (i*s.size)++(((c.drop (i*s.size)).take s.size).take o++us++((c.drop (i*s.size)).take s.size).drop (o+us.length))++c.drop ((i+1)*s.size):=by
     have e1:c.take (i*s.size+o)=c.take (i*s.size)++((c.drop (i*s.size)).take s.size).take o:=by
      rw [Q6,E3 az,List.take_add]
     have e2:c.drop (i*s.size+o+us.length)=((c.drop (i*s.size)).take s.size).drop (o+us.length)++c.drop ((i+1)*s.size):=by
      rw [List.drop_take,I6,I9,Nat.one_mul];have:i*s.size+(o+us.length)=i*s.size+o+us.length:=by omega
      rw [this];have e3:c.drop (i*s.size+s.size)=(c.drop (i*s.size+o+us.length)).drop (s.size - (o+us.length)):=by
       rw [I6]; congr 1; omega
      rw [e3,D5]
     rw [e1,e2];simp only [I4]
    have d:=Kp.setRow w g ((c++sp).take (i*s.size+o)++us++(c++sp).drop (i*s.size+o+us.length)).toArray;have htk:(c++sp).take (i*s.size+o)++us++(c++sp).drop (i*s.size+o+us.length)=(c.take (i*s.size+o)++us++c.drop (i*s.size+o+us.length))++sp:=by
     rw [N8 az,List.drop_append_of_le_length az];simp only [I4]
    refine ⟨_,R.store hx hy h5 hus h1 K (by rw [r5]; omega),O,?_⟩;have N:(w.setRow g ((c++sp).take (i*s.size+o)++us++(c++sp).drop (i*s.size+o+us.length)).toArray).heap[g]? = some (.cells ((c++sp).take (i*s.size+o)++us++(c++sp).drop (i*s.size+o+us.length)).toArray tb (0,0)):=D2 w g _ _ tb _ h5;generalize hw':w.setRow g ((c++sp).take (i*s.size+o)++us++(c++sp).drop (i*s.size+o+us.length)).toArray=w' at d N;rw [htk,hcur] at N;have D:u1 O w O w':=⟨d.os,d.tape,d.output,d.size,fun b hb e=>⟨e,d.block b hb (by
     simp only [A1];rintro rfl;exact e ⟨id,_,hρ1,rfl⟩)⟩⟩
    have I:=D.le k3.lo;have k:=k3.put hH1 hρ1 rfl d (o':=.row tb s (S.set i x')) ⟨Y.1,by rw [B8]; exact Y.2,.inr ⟨g,cap,_,sp,by rw [B8],N,by
     rw [BC hxi];have f1:p0 (cx G ρ w) ((S.take i).flatMap (cellsOf s)) (c.take (i*s.size)):=bU h6 i;have f2:p0 (cx G ρ w) ((S.drop (i+1)).flatMap (cellsOf s)) (c.drop ((i+1)*s.size)):=cC h6 (i+1);exact (((f1.c8 k2).append hsp).append (f2.c8 k2)).c8 I,by
     have e4:((c.drop (i*s.size)).take s.size).length=s.size:=by rw [s9,length_drop]; omega
     rw [I9,Nat.one_mul];simp only [r5,s9,length_drop] at e4 h7 ⊢;omega,by rw [B8]; exact h8,h9⟩⟩
    refine ⟨k1.trans ⟨k.2,fun _ _ _ h=>h,fun j r' hj A=>⟨A,fun L f=>d.block L (k3.sr j r' L A f).2.1 ?_⟩,fun _ _ h=>h⟩,k.1,k4.c8 I (lu.refl _),trivial,aa⟩;simp only [A1];rintro rfl;have:=k3.inj j id _ _ L A hρ1 f rfl;subst this; rw [V] at hj; cases hj
   cases h
  cases h
 cases h
end
section
variable {P:Program} {T:List (Nat × TI)} {G:Gl} {O:ck} {n:Nat} {F:Fr} {w:World} {x y:Operand} {ty t:TypeId} {ρ:List RE} {H:AH} {fr:j9} {ro:Lv}
theorem pY {c m:Cx} {s:Sh}:∀ {l:List (Nat × n8)} {pv:List (Nat × Value)} {k:Nat} {d:List (l5 s)},uf s H l k=some d->hQ (fun p q=>p.1=q.1/\dJ c ρ p.2 q.2) l pv->(∀ p ∈ l,∀ f,hQ (Rd c ρ) p.2.cells f->hQ (Qd m) (IM H p.2.cells) f) ->
  ∃ a:List (List Value),pv.map (fun p=>(p.1,p.2.cells.toList))=(range' k a.length).zip a/\(∀ o ∈ a,o.length=s.size)/\a.length=d.length/\p0 m (d.flatMap (cellsOf s)) a.flatten
 | [],_,k,d,h,g,_=>by
  cases h; cases g;exact ⟨[],rfl,aa,rfl,.nil⟩
 | (i,v) :: r,_,k,d,h,g,z=>by
  cases g with
  | @cons _ q _ Q A B=>
  obtain ⟨S,u⟩:=q;obtain ⟨e,C⟩:=A;simp only at e; subst e;simp [uf] at h;split at h
  ·rename_i x l D I J;cases h;have:=r7 D;subst this;obtain ⟨f,K,b⟩:=dJ.cells C;have j:=aV I (z (i,v) aa f b);obtain ⟨a,U,V,L,N⟩:=pY J B fun p g=>z p (by simp [g]);refine ⟨f :: a,?_,?_,by simp [L],?_⟩
   ·grind [List.range'_succ,List.zip_cons_cons]
   ·intro o hvs;rcases u2.1 hvs with rfl | hvs
    ·rw [<- j.length,dz]
    grind
   rw [H5,flatten_cons];exact j.append N
  cases h
theorem ui:∀ {l:List (Nat × n8)} {p:Nat × n8} {i:Nat},p ∈ l->i ∈ fy p.2.cells->i ∈ FK l
 | (j,v) :: r,p,i,h,a=>by
  simp [FK];rcases u2.1 h with rfl | h
  ·grind
  exact .inr (ui h a)
variable {e:TypeId} {w':World}
def sJ (f:oh G ρ H w) (l:o9 (cx G ρ w) ρ fr F) (h:Kp [] w w') {s:Sh} {xs:List (l5 s)} {cells sp:List Value} {cap:Nat} (k:w'.heap[w.heap.size]? = some (.cells (toArray (cells++sp)) e (0,0))) (m:G.shp e=some s) (o:xs.length*s.bytes<=140737488355328) (p:p0 (cx G ρ w) (xs.flatMap (cellsOf s)) cells) (q:(cells++sp).length=cap*s.size) (u:xs.length<=cap) (v:cap<=maxLen) :
  ∃ a,s8 ro ρ w a w' /\ oh G a (H++[.row e s xs]) w' /\ o9 (cx G a w') a fr F/\Rd (cx G a w') a (.own H.length) (.slice (some ⟨w.heap.size,0,none⟩) xs.length cap):=by
 have j:w.heap.size<w'.heap.size:=(Q4.1 k).1;have b:u1 ρ w (ρ++[.row w.heap.size cap xs.length s.size]) w':=u1.p4 h fun g c=>by cases c; exact sh _
 have d:=b.le f.lo;refine ⟨ρ++[.row w.heap.size cap xs.length s.size],s8.p4 f h (fun g c=>by cases c; exact sh _),f.p4 h (fun g c=>by cases c; exact ⟨sh _,j⟩) ⟨m,o,.inr ⟨w.heap.size,cap,cells,sp,rfl,k,p.c8 d,q,u,v⟩⟩,l.c8 d (gO _ _),.inl ⟨w.heap.size,cap,xs.length,s.size,by rw [f.obj.length]; simp,rfl⟩⟩
def Qk (f:oh G ρ H w) (l:o9 (cx G ρ w) ρ fr F) (h:Kp [] w w') {s:Sh} (m:G.shp e=some s) {k:List (l5 s)} (o:k=[]) (a:Option Addr) :
  ∃ b,s8 ro ρ w b w' /\ oh G b (H++[.row e s k]) w' /\ o9 (cx G b w') b fr F/\Rd (cx G b w') b (.own H.length) (.slice a 0 0):=by
 subst o;have c:u1 ρ w (ρ++[.emp]) w':=u1.p4 h fun g d=>by cases d
 have j:=c.le f.lo;exact ⟨ρ++[.emp],s8.p4 f h (fun g d=>by cases d),f.p4 h (fun g d=>by cases d) ⟨m,aa,.inl ⟨rfl,rfl⟩⟩,l.c8 j (gO _ _),.inr ⟨by rw [f.obj.length]; simp,a,rfl⟩⟩
variable {z:List Value} {b:Nat}
def Km {s:Nat} (h:(P.info? e).map (fun i=>(i.zero.map Value.cells,i.size,i.bytes))=some (some z.toArray,s,b)):((P.info? e).bind (·.zero)).map Value.cells=some z.toArray:=by
 cases a:P.info? e with
 | none=>simp [a] at h
 | some i=>simp [a] at h ⊢; exact h.1
def DF {s:Nat} (r:P.underlying t=some (.slice e)) (hi':(P.info? e).map (fun i=>(i.zero.map Value.cells,i.size,i.bytes))=some (some z.toArray,s,b)) (hz:z.length=s) (hs0:0<s)
  {v:Value} {m k cy:Nat} {c d:List Value} {A:Option Addr} {lo:Nat} (hlo:lo<=w.heap.size) (N:(m=0/\c=[]/\∃ a,v = .slice a 0 0)\/w.ownsRow lo e s v m c) (U:d.length=k*s) (V:∀ u ∈ d,u.oneCell' = true) (B:k=0\/∃ ad,A=some ad/\ie w ad d)
  (l:(m+k)*b<=140737488355328) (I:m+k<=9223372036854775807) :
  ∃ q w',(Builtin.append_ #[t,t] ty #[v,.slice A k cy]).run P w = .ok q w' /\ ((m+k=0/\∃ a,q = .slice a 0 0)\/w'.ownsRow lo e s q (m+k) (c++d))/\Kp (ob v) w w' /\ (∀ g ∈ ob q,g ∈ ob v\/(g=w.heap.size/\w.heap.size<w'.heap.size)):=by
 obtain ⟨i,zv,x,W,hzc,X,J⟩:=sj hi';have hzs:zv.cells.size=s:=by rw [hzc]; simpa using hz
 have y:A=none->k=0:=by
  intro hA;rcases B with h | ⟨ad',h,hc⟩
  ·exact h
  rw [hA] at h; cases h
 have Y:∀ ad,A=some ad->∀ j u,d[j]? = some u->w.cell? (ad.add j)=some u:=by
  intro ad hA j u hu;rcases B with h | ⟨ad',h,hc⟩
  ·subst h;have:d=[]:=B7 az;subst this; simp at hu
  rw [hA] at h; cases h; exact hc j u hu
 have C:∀ (v:Value) (n:Nat) (c:List Value),w.ownsRow lo e s v n c->n+k<=9223372036854775807->(n+k)*b<=140737488355328 ->
   ∃ q w',(Builtin.append_ #[t,t] ty #[v,.slice A k cy]).run P w = .ok q w' /\ w'.ownsRow lo e s q (n+k) (c++d)/\w.grownBy w' v.ownBlock /\
    (q.ownBlock=v.ownBlock\/q.ownBlock=some w.heap.size)/\(q.ownBlock=some w.heap.size->w.heap.size<w'.heap.size):=by
  intro v n c f I l;rcases A with _ | ad
  ·have L:=y rfl;subst L;have Z:d=[]:=B7 az;subst Z;refine ⟨v,w,?_,by simpa using f,⟨rfl,rfl,rfl,sh _,fun _ _ _=>rfl⟩,.inl rfl,fun h=>?_⟩
   ·rcases f.2 with ⟨rfl,F⟩ | ⟨g,G,H,rfl,_,_,hnc,_⟩
    ·simp [Builtin.append_,A5 r,sizeOf,typeInfo,x,Builtin.lenOf,Builtin.firstCells]
    simp [Builtin.append_,A5 r,sizeOf,typeInfo,x,Builtin.lenOf,Builtin.firstCells,hnc,storeCells]
   exact absurd (f.lt _ h).2 az
  obtain ⟨q,w',p,Q,D,_,h5⟩:=run_append_own_at (P:=P) w lo t ty e i zv s b r x W X J hzs az v n c f ad k cy d U (Y ad rfl) V (by simpa [maxLen] using I) l hlo;exact ⟨q,w',p,Q,D,h5,fun h=>(Q.lt _ h).2⟩
 by_cases K:∃ a,v = .slice a 0 0
 ·obtain ⟨O,rfl⟩:=K;have hm0:m=0/\c=[]:=by
   rcases N with ⟨h1,Q,_⟩ | h1
   ·exact ⟨h1,Q⟩
   have hm:m=0:=by
    rcases h1.2 with ⟨_,F⟩ | ⟨g,G,H,hv,_,_,hn,_⟩
    ·exact F
    injection hv with _ e1 _; exact e1.symm
   refine ⟨hm,B7 ?_⟩;rw [h1.1,hm,O6]
  obtain ⟨rfl,rfl⟩:=hm0;by_cases L:k=0
  ·subst L;have Z:d=[]:=B7 az;subst Z;refine ⟨.slice O 0 0,w,?_,.inl ⟨rfl,O,rfl⟩,(Kp.refl w).sub aa,fun g S=>.inl S⟩;cases O <;> cases A <;> simp [Builtin.append_,A5 r,sizeOf,typeInfo,x,Builtin.lenOf,Builtin.firstCells,storeCells,loadCells,loadCellsFrom]
  obtain ⟨ad,rfl⟩:∃ ad,A=some ad:=by
   cases A with
   | none=>exact absurd (y rfl) L
   | some ad=>exact ⟨ad,rfl⟩
  simp at I l;obtain ⟨q,w',p,Q,D,h5,h6⟩:=C (.slice none 0 0) 0 [] (World.ownsRow_nil _ _ _ _) (by simpa using I) (by simpa using l);have heq:(Builtin.append_ #[t,t] ty #[.slice O 0 0,.slice (some ad) k cy]).run P w=(Builtin.append_ #[t,t] ty #[.slice none 0 0,.slice (some ad) k cy]).run P w:=by
   cases O with
   | none=>rfl
   | some b0=>
    rw [run_append_nil (P:=P) w t ty e i zv r x W ad k cy d (by rw [U,X]) (Y ad rfl) az az (by rw [J]; omega)];rw [run_append_grow (P:=P) w t ty e i zv r x W b0 0 0 [] aa aa ad k cy d (by rw [U,X]) (Y ad rfl) az az (by
     rw [J]; exact T3 az (by simpa using l))]
    simp
  refine ⟨q,w',heq.trans p,.inr (by simpa using Q),⟨D.os,D.tape,D.output,D.size,fun b hb _=>D.block b hb (by simp [Value.ownBlock])⟩,fun g S=>?_⟩;have o:=yp S;rcases h5 with h5 | h5
  ·rw [h5] at o; cases o
  exact .inr ⟨by rw [h5] at o; exact (B1 o).symm,h6 h5⟩
 have f:w.ownsRow lo e s v m c:=by
  rcases N with ⟨_,_,h⟩ | h1
  ·exact absurd h K
  exact h1
 obtain ⟨q,w',p,Q,D,h5,h6⟩:=C v m c f I l;have T:∀ g,v.ownBlock=some g->g ∈ ob v:=by
  intro g S;rcases f.2 with ⟨rfl,F⟩ | ⟨g',G,H,rfl,_,_,hn,_⟩
  ·cases S
  cases S;simp only [ob];rw [dc]
  ·simp
  intro F; subst F; exact K ⟨_,by rw [show m=0 by omega]⟩
 refine ⟨q,w',p,.inr Q,⟨D.os,D.tape,D.output,D.size,fun b hb hn=>D.block b hb fun he=>hn (T b he.symm)⟩,fun g S=>?_⟩;have o:=yp S;rcases h5 with h5 | h5
 ·rw [h5] at o; exact .inl (T g o)
 exact .inr ⟨by rw [h5] at o; exact (B1 o).symm,h6 h5⟩
end
section
variable {G:Gl} {ρ:List RE} {H:AH} {w w':World}
theorem jV (u:oh G ρ H w) {id:Nat} {e e':TypeId} {s s':Sh} {xs:List (l5 s)} {zs:List (l5 s')} (hH:l4 H id = .row e s xs) {ro:Lv} (N:ro.mv id=true/\ro.wr id=true) {S:List Nat} (D:Kp S w w') (hS:∀ g ∈ S,∃ r,ρ[id]? = some r/\r.g? = some g) {r':RE} (W:∀ g,r'.g? = some g->(∃ r,ρ[id]? = some r/\r.g? = some g)\/(w.heap.size<=g/\g<w'.heap.size))
  (ho:(cx G ρ w).le (cx G (ρ.set id r') w')->OR (cx G (ρ.set id r') w') (ρ.set id r') (.row e' s' zs) r') :
  s8 ro ρ w (ρ.set id r') w' /\ oh G (ρ.set id r') ((iJ (AV.kill id) H).set id (.row e' s' zs)) w' /\ (∀ fr F,o9 (cx G ρ w) ρ fr F->o9 (cx G (ρ.set id r') w') (ρ.set id r') (jK (AV.kill id) fr) F):=by
 obtain ⟨O,hil,hiH⟩:=nI u hH;have hlv:∀ b,b<w.heap.size->¬ live ρ b->¬ live (ρ.set id r') b:=fun b B X h=>(AE h).elim X fun p=>by
  rcases W b p with ⟨r,h3,I⟩ | h3
  ·exact X ⟨id,r,h3,I⟩
  omega
 have J:∀ b,b<w.heap.size->(∀ r,ρ[id]? = some r->r.g? ≠ some b)->w'.heap[b]? = w.heap[b]?:=fun b B hn=>D.block b B fun hm=>by
  obtain ⟨r,m,p⟩:=hS b hm;exact hn r m p
 have K:u1 ρ w (ρ.set id r') w':=⟨D.os,D.tape,D.output,D.size,fun b B X=>⟨hlv b B X,J b B fun r m p=>X ⟨id,r,m,p⟩⟩⟩;have d:=K.le u.lo;have t:∀ j r,id≠j->ρ[j]? = some r->(ρ.set id r')[j]? = some r:=fun j r c h=>by rw [jC c]; exact h
 have y:∀ q v,eQ ρ q v->eQ (ρ.set id r') q v:=fun q v ⟨g,m,p⟩=>⟨g,t _ _ (fun e=>O g (e ▸ m)) m,p⟩;have Y:∀ a v,Rd (cx G ρ w) ρ a v->Rd (cx G (ρ.set id r') w') (ρ.set id r') (a.kill id) v:=by
  intro a v h;cases a with
  | own j=>
   simp [AV.kill];cases B:Nat.beq id j
   ·have c:id≠j:=by rintro rfl; simp at B
    rcases h with ⟨g,C,len,z,h,e⟩ | ⟨h,e⟩
    ·exact .inl ⟨g,C,len,z,t _ _ c h,e⟩
    exact .inr ⟨t _ _ c h,e⟩
   exact Rd.one h
  | sub j o k=>
   simp [AV.kill];cases B:Nat.beq id j
   ·have c:id≠j:=by rintro rfl; simp at B
    rcases h with ⟨g,C,len,z,h,e⟩ | ⟨h,e⟩
    ·exact .inl ⟨g,C,len,z,t _ _ c h,e⟩
    exact .inr ⟨t _ _ c h,e⟩
   exact Rd.one h
  | x8 j k o=>
   simp [AV.kill];cases B:Nat.beq id j
   ·have c:id≠j:=by rintro rfl; simp at B
    obtain ⟨g,C,len,z,h,e⟩:=h;exact ⟨g,C,len,z,t _ _ c h,e⟩
   exact Rd.one h
  | ptr j o=>exact y _ _ h
  | mq j=>
   obtain ⟨g,m,e⟩:=h;exact ⟨g,t _ _ (fun e=>O g (e ▸ m)) m,e⟩
  | fn f b cs=>
   obtain ⟨bs,us,m,p,e⟩:=h;exact ⟨bs,us,m.imp fun _ _ h=>y _ _ h,p.imp fun _ _ h=>y _ _ h,e⟩
  | fe s' x o=>
   obtain ⟨A,P,m,p,h3,e⟩:=h;exact ⟨A,P,(d.S _ m).1,p.dm (d.S _ m).2,h3.c8 d,e⟩
  | np=>exact h
  | nf=>exact h
  | yl l=>exact h
  | xx k cs=>
   obtain ⟨us,m,p⟩:=h;exact ⟨us,m.imp fun _ _ h=>y _ _ h,p.le d⟩
  | dead=>exact h
  | int n=>exact Pd.c8 h d
  | u8 b=>exact Pd.c8 h d
  | u64 n=>exact Pd.c8 h d
  | bool e=>exact Pd.c8 h d
  | str s=>exact Pd.c8 h d
  | em b=>exact Pd.c8 h d
  | li nw xs=>exact Pd.c8 h d
  | fz s xs=>exact Pd.c8 h d
 have L:∀ j r g,id≠j->ρ[j]? = some r->r.g? = some g->w'.heap[g]? = w.heap[g]?:=fun j r g c m p=>J g (u.sr j r g m p).2.1 fun Z h3 I=>c (u.inj _ _ _ _ g h3 m I p);have Q:∀ (a:Nat) (r:RE) (g:Nat),(ρ.set id r')[a]? = some r->r.g? = some g->(id≠a/\ρ[a]? = some r)\/(id=a/\((∃ r,ρ[id]? = some r/\r.g? = some g)\/(w.heap.size<=g/\g<w'.heap.size))):=fun a r g m p=>by
  by_cases T:id=a
  ·subst T;rw [E8 hil] at m; cases m;exact .inr ⟨rfl,W g p⟩
  rw [jC T] at m; exact .inl ⟨T,m⟩
 refine ⟨⟨K,fun j r U h=>t j r (by rintro rfl; rw [N.1] at U; cases U) h,fun j r U h=>⟨t j r (by rintro rfl; rw [N.2] at U; cases U) h,fun g hg=>L j r g (by rintro rfl; rw [N.2] at U; cases U) h hg⟩,fun j g h=>t j _ (fun e=>O g (e ▸ h)) h⟩,⟨df (by simp [fG,u.obj.length]) fun j o r V hr=>?_,fun a b r1 Z g m p h3 I=>?_,fun j r g m p=>?_,fun b B=>w9 (u.z b B) D.size,z7 u.b0 D.size,u.tb.c8 d⟩,fun fr F h=>tC Y h⟩
 ·by_cases c:id=j
  ·grind
  rw [L8 c,mL] at V;rw [jC c] at hr;rw [G4] at V;obtain ⟨o',ho2,rfl⟩:=V;obtain ⟨Z,i,hor⟩:=u.at_ ho2;rw [hr] at i; cases i;exact hor.map d Y fun g hg=>L j r g c hr hg
 ·rcases Q a r1 g m h3 with ⟨k1,k2⟩ | ⟨k1,k2⟩ <;> rcases Q b Z g p I with ⟨k3,k4⟩ | ⟨k3,k4⟩
  ·exact u.inj a b r1 Z g k2 k4 h3 I
  ·rcases k4 with ⟨r,k5,k6⟩ | k4
   ·exact absurd (u.inj _ _ _ _ g k5 k2 k6 h3) k1
   have:=(u.sr a r1 g k2 h3).2.1; omega
  ·rcases k2 with ⟨r,k5,k6⟩ | k2
   ·exact absurd (u.inj _ _ _ _ g k5 k4 k6 I) k3
   have:=(u.sr b Z g k4 I).2.1; omega
  omega
 rcases Q j r g m p with ⟨k1,k2⟩ | ⟨k1,k2⟩
 ·have:=u.sr j r g k2 p;exact ⟨this.1,w9 this.2.1 D.size,this.2.2⟩
 rcases k2 with ⟨r,k5,k6⟩ | k2
 ·have:=u.sr _ r g k5 k6;exact ⟨this.1,w9 this.2.1 D.size,this.2.2⟩
 exact ⟨z7 u.b0 k2.1,k2.2,fun hz=>by have:=u.z g hz; omega⟩
end
section
variable {P:Program} {T:List (Nat × TI)} {G:Gl} {O:ck} {n:Nat} {F:Fr} {w:World} {x y:Operand} {ty t:TypeId} {ρ:List RE} {H:AH} {fr:j9} {ro:Lv}
variable {b:AV}
theorem pP (z:oh G ρ H w) {vb:Value} {s:Sh} {j:List (l5 s)} (h:(b.vw H).gv s=some j) (p:Rd (cx G ρ w) ρ b vb):∃ A k d,vb = .slice A j.length k/\d.length=j.length*s.size/\(∀ u ∈ d,u.oneCell' = true)/\(j.length=0\/∃ l,A=some l/\ie w l d)/\p0 (cx G ρ w) (j.flatMap (cellsOf s)) d:=by
 have B:∀ v,b.vw H = .fz s v->∃ A k d,vb = .slice A v.length k/\d.length=v.length*s.size/\(∀ u ∈ d,u.oneCell' = true)/\(v.length=0\/∃ l,A=some l/\ie w l d)/\p0 (cx G ρ w) (v.flatMap (cellsOf s)) d:=fun v f=>by
  obtain ⟨a,k,g,rfl,I,J,m,q⟩:=(Jv z f p).ex;refine ⟨a,k,g,rfl,by rw [<- m.length,cz],m.RB,?_,m⟩;rcases q with q | ⟨A,C,_,D⟩
  ·grind
  exact .inr ⟨A,C,D⟩
 cases f:b.vw H with
 | fz K L=>
  rw [f] at h;simp [AV.gv] at h;grind
 | em c=>
  rw [f] at h;cases h;have o:b = .em c:=by
   cases b <;> simp [AV.vw] at f <;> first | (cases f <;> rfl) | (split at f <;> cases f)
  subst o;cases p with | @em _ a _=>
  exact ⟨a,0,[],rfl,aa,aa,.inl rfl,.nil⟩
 | _=>rw [f] at h; simp [AV.gv] at h
variable {e:TypeId} {m:Nat}
theorem qq {lo:Nat} {s:Nat} {v:Value} {c:List Value} (h:w.ownsRow lo e s v m c):(v = .slice none 0 0/\m=0)\/∃ g a f,v = .slice (some ⟨g,0,none⟩) m a/\w.heap[g]? = some (.cells (toArray (c++f)) e (0,0))/\(c++f).length=a*s/\m<=a/\a<=maxLen:=by
 rcases h.2 with q | ⟨g,a,d,j,_,k,l,o,u,p⟩
 ·grind
 refine .inr ⟨g,a,d.toList.drop (m*s),j,?_,?_,l,o⟩
 ·rw [<- p,D5]; simpa using k
 grind
variable {r:SR} {va:Value} {a:AV}
def ns (hR:oh G ρ H w) (hf:o9 (cx G ρ w) ρ fr F) {op:Op} {s:Sh} {A:List (l5 s)} {T:List Value} (u:G.shp e=some s) (s4:p0 (cx G ρ w) (A.flatMap (cellsOf s)) T)
  (run:∀ (m:Nat) (f:List Value),((m=0/\f=[]/\∃ a,va = .slice a 0 0)\/w.ownsRow 0 e s.size va m f)->(m+A.length)*s.bytes<=140737488355328 ->
     ∃ N d,aL P n F w op ty N d /\ ((m+A.length=0/\∃ a,N = .slice a 0 0)\/d.ownsRow 0 e s.size N (m+A.length) (f++T))/\Kp (ob va) w d /\ (∀ g ∈ ob N,g ∈ ob va\/(g=w.heap.size/\w.heap.size<d.heap.size)))
  (h:m_ ro fr H e s A a=some r) (hob:∀ p ∈ r.ob,p) (ha:Rd (cx G ρ w) ρ a va) :
  ∃ v d,aL P n F w op ty v d /\ fw G ro ρ w r F v d:=by
 unfold m_ at h
 have k:∀ (id:Nat) (L Q:List (l5 s)) (m:Nat),l4 H id = .row e s L->(ro.mv id=true/\ro.wr id=true)->m=Q.length->(∀ (N:Value) (d:World),d.heap.size=d.heap.size)->(m+A.length)*s.bytes<=140737488355328 ->
   ((va = .slice (some ⟨0,0,none⟩) 0 0->True))->(∃ f,((m=0/\f=[]/\∃ a,va = .slice a 0 0)\/w.ownsRow 0 e s.size va m f)/\p0 (cx G ρ w) (Q.flatMap (cellsOf s)) f)->(∀ g ∈ ob va,∃ r,ρ[id]? = some r/\r.g? = some g) ->
   ∃ v d,aL P n F w op ty v d /\ fw G ro ρ w ⟨one (.own id),jK (AV.kill id) fr,(iJ (AV.kill id) H).set id (.row e s (Q++A)),[],[]⟩ F v d:=by
  intro id L Q m X hro hm _ c _ ⟨f,hrow,hpo⟩ O;subst hm;obtain ⟨_,Y,_⟩:=nI hR X;obtain ⟨N,d,h1,h2,h3,V⟩:=run Q.length f hrow c;have z:(Q++A).length=Q.length+A.length:=r5;have done:∀ (Z:RE),(∀ g,Z.g? = some g->(∃ r,ρ[id]? = some r/\r.g? = some g)\/(w.heap.size<=g/\g<d.heap.size))->((cx G ρ w).le (cx G (ρ.set id Z) d)->OR (cx G (ρ.set id Z) d) (ρ.set id Z) (.row e s (Q++A)) Z)->Rd (cx G (ρ.set id Z) d) (ρ.set id Z) (.own id) N -> ∃ v d,aL P n F w op ty v d /\ fw G ro ρ w ⟨one (.own id),jK (AV.kill id) fr,(iJ (AV.kill id) H).set id (.row e s (Q++A)),[],[]⟩ F v d:=fun Z D I J=>by
   obtain ⟨K,b,i⟩:=jV hR X hro h3 O D I;exact ⟨N,d,h1,ρ.set id Z,K,b,i fr F hf,J,aa⟩
  rcases h2 with ⟨t,a',rfl⟩ | h2
  ·refine done .emp (by rintro g ⟨⟩) (fun _=>⟨u,by rw [z]; exact c,.inl ⟨rfl,B7 az⟩⟩) (.inr ⟨E8 Y,a',rfl⟩)
  rcases qq h2 with ⟨rfl,t⟩ | ⟨g,q,sp,rfl,D,I,J,K⟩
  ·refine done .emp (by rintro g ⟨⟩) (fun _=>⟨u,by rw [z]; exact c,.inl ⟨rfl,B7 az⟩⟩) (.inr ⟨E8 Y,none,rfl⟩)
  by_cases S:q=0
  ·subst S;have x:Q.length+A.length=0:=by omega
   exact done .emp (by rintro g ⟨⟩) (fun _=>⟨u,by rw [z]; exact c,.inl ⟨rfl,B7 az⟩⟩) (.inr ⟨E8 Y,some ⟨g,0,none⟩,by rw [x]⟩)
  refine done (.row g q (Q++A).length s.size) (fun g' j=>?_) (fun hle=>⟨u,by rw [z]; exact c,.inr ⟨g,q,f++T,sp,rfl,D,?_,I,by rw [z]; exact J,K⟩⟩) (.inl ⟨g,q,(Q++A).length,s.size,E8 Y,by rw [z]⟩)
  ·cases j;rcases V g (by simp [ob,S]) with W | ⟨W,h6⟩
   ·exact .inl (O g W)
   exact .inr ⟨az,az⟩
  rw [K1];exact (hpo.append s4).c8 hle
 split at h
 ·-- no room
  cases h;cases ha with | @em _ y _=>
  have c:=hob _ (u3 _);obtain ⟨N,d,h1,h2,h3,V⟩:=run 0 [] (.inl ⟨rfl,rfl,y,rfl⟩) (by simpa using c);have hk:Kp [] w d:=h3.sub fun g hg=>by cases y <;> simp [ob] at hg
  simp only [x7,T0] at h2;have fin:∀ (a':Option Addr),A=[]->N = .slice a' 0 0->fw G ro ρ w ⟨one (.own H.length),fr,H++[.row e s A],[A.length*s.bytes<=140737488355328],[]⟩ F N d:=fun a' hy0 hv=>by
   obtain ⟨l,D,I,J,K⟩:=Qk (ro:=ro) hR hf hk u hy0 a';subst hv;exact ⟨l,D,I,J,K,aa⟩
  refine ⟨N,d,h1,?_⟩;rcases h2 with ⟨t,a',hv⟩ | h2
  ·exact fin a' (B7 t) hv
  rcases qq h2 with ⟨hv,t⟩ | ⟨g,q,sp,rfl,D,I,J,K⟩
  ·exact fin none (B7 t) hv
  by_cases S:q=0
  ·subst S;have x:A.length=0:=by omega
   exact fin _ (B7 x) (by rw [x])
  rcases V g (by simp [ob,S]) with W | ⟨W,h6⟩
  ·cases y <;> simp [ob] at W
  subst W;obtain ⟨l,j1,j2,j3,j4⟩:=sJ (ro:=ro) hR hf hk D u c s4 I J K;exact ⟨l,j1,j2,j3,j4,aa⟩
 ·-- a row
  rename_i id;split at h
  ·rename_i e' s' L X;split at h
   ·rename_i hss;subst hss;split at h
    ·rename_i B;cases h;simp only [pe] at B;have he:=r7 B.2;subst he;have c:=hob _ (u3 _);have U:=k id L L L.length X B.1 rfl (fun _ _=>rfl) c (fun _=>trivial);rcases cc hR X with ⟨t,rfl⟩ | ⟨g,q,o,sp,h2,h3,V,W,h6,h7⟩
     ·rcases ha with ⟨_,_,_,_,C,_⟩ | ⟨_,y,rfl⟩
      ·rw [t] at C; cases C
      obtain ⟨v,d,D,l,I,J,K,b,i⟩:=U ⟨[],.inl ⟨rfl,rfl,y,rfl⟩,.nil⟩ (fun g hg=>by cases y <;> simp [ob] at hg);exact ⟨v,d,D,l,I,J,K,b,i⟩
     rcases ha with ⟨_,_,_,_,C,rfl⟩ | ⟨C,_⟩
     ·rw [h2] at C; cases C;obtain ⟨v,d,D,l,I,J,K,b,i⟩:=U ⟨o,.inr ⟨by rw [<- V.length,cz],.inr ⟨g,q,_,rfl,F8 _,h3,h6,h7,by simpa using W,by
       have hcl:o.length=L.length*s'.size:=by rw [<- V.length,cz]
       rw [<- hcl]; simp⟩⟩,V⟩ (fun g' j=>by
        simp only [ob] at j;split at j
        ·simp at j
        simp at j; subst j; exact ⟨_,h2,rfl⟩)
      exact ⟨v,d,D,l,I,J,K,b,i⟩
     rw [h2] at C; cases C
    cases h
   cases h
  cases h
 ·-- a row's beginning
  rename_i id len;split at h
  ·rename_i e' s' L X;split at h
   ·rename_i hss;subst hss;split at h
    ·rename_i B;cases h;simp only [pe] at B;have he:=r7 B.2;subst he;have c:=hob _ (u3 _);rcases cc hR X with ⟨t,rfl⟩ | ⟨g,q,o,sp,h2,h3,V,W,h6,h7⟩
     ·rcases ha with ⟨_,_,_,_,C,_⟩ | ⟨_,_,rfl,y,rfl⟩
      ·rw [t] at C; cases C
      obtain ⟨v,d,D,l,I,J,K,b,i⟩:=k id [] ([].take 0) 0 X B.1 rfl (fun _ _=>rfl) c (fun _=>trivial) ⟨[],.inl ⟨rfl,rfl,y,rfl⟩,.nil⟩ (fun g hg=>by cases y <;> simp [ob] at hg);exact ⟨v,d,D,l,I,J,K,b,i⟩
     rcases ha with ⟨_,_,_,_,C,h9,rfl⟩ | ⟨C,_⟩
     ·rw [h2] at C; cases C;have hlt:(L.take len).length=len:=by simp; omega
      have hcl:o.length=L.length*s'.size:=by rw [<- V.length,cz]
      have hmul:len*s'.size<=L.length*s'.size:=H4 _ az;obtain ⟨v,d,D,l,I,J,K,b,i⟩:=k id L (L.take len) len X B.1 hlt.symm (fun _ _=>rfl) c (fun _=>trivial) ⟨o.take (len*s'.size),.inr ⟨by rw [s9]; omega,.inr ⟨g,q,_,by rw [O6,O5],F8 _,h3,az,h7,by simpa using W,by
       rw [List.toList_toArray,N8 az]⟩⟩,bU V len⟩ (fun g' j=>by
        simp only [ob] at j;split at j
        ·simp at j
        simp at j; subst j; exact ⟨_,h2,rfl⟩)
      exact ⟨v,d,D,l,I,J,K,b,i⟩
     rw [h2] at C; cases C
    cases h
   cases h
  cases h
 cases h
def kr (hT:bz P G.shp T) (I:oh G ρ H w) (L:o9 (cx G ρ w) ρ fr F) {vb:Value} (h:kL T ro fr H t a b=some r) (o:∀ p ∈ r.ob,p) (j:Rd (cx G ρ w) ρ a va) (N:Rd (cx G ρ w) ρ b vb) (Q:ev F x=some va) (S:ev F y=some vb) :
  ∃ v l,aL P n F w (.call { callee:=.builtin .append,args:=#[x,y],argTypes:=#[t,t] }) ty v l /\ fw G ro ρ w r F v l:=by
 unfold kL at h;split at h
 ·rename_i e s sz z q;obtain ⟨U,V⟩:=(hT _ _ q).2;obtain ⟨d,⟨W,X,u⟩,_⟩:=V s rfl;have B:W.length=s.size:=by
   have:=(kx (c:=cx G ρ w) (ρ:=ρ) u).length;rw [dz] at this; exact this.symm
  split at h
  ·rename_i J C;obtain ⟨A,k,Y,rfl,Z,i,O,s4⟩:=pP I C N;refine ns (ty:=ty) I L d s4 (fun m K f g=>?_) h o j;have D:m+J.length<=9223372036854775807:=by
    have:=R0 (m+J.length) (iF s);omega
   obtain ⟨v',l,h1,h2⟩:=DF (P:=P) (w:=w) (ty:=ty) (cy:=k) U X B (size_pos s) (lo:=0) (F8 _) f Z i O g D;exact ⟨v',l,fun a _ _ _ _ j=>by simp [execOp,resolve,invoke,builtin,j.ev Q,j.ev S,h1],h2⟩
  cases h
 cases h
variable {t':TypeId}
def tg {z:List Value} (Y:P.underlying t=some (.slice e)) (B:P.underlying t' = some .string) (O:(P.info? e).map (fun i=>(i.zero.map Value.cells,i.size,i.bytes))=some (some z.toArray,1,1)) (hz:(P.info? e).bind (·.zero)=some (.int .u8 0))
  {v:Value} {d:List Value} (S:(m=0/\d=[]/\∃ a,v = .slice a 0 0)\/w.ownsRow 0 e 1 v m d) (s:ByteArray) (U:m+s.size<=140737488355328) :
  ∃ A C,(Builtin.append_ #[t,t'] ty #[v,.string s]).run P w = .ok A C /\ ((m+s.size=0/\∃ a,A = .slice a 0 0)\/C.ownsRow 0 e 1 A (m+s.size) (d++Lib.strCells s))/\Kp (ob v) w C /\ (∀ g ∈ ob A,g ∈ ob v\/(g=w.heap.size/\w.heap.size<C.heap.size)):=by
 obtain ⟨i,zv,V,hzv,hzc,K,L⟩:=sj O;have p:i.zero=some (.int .u8 0):=by
  rw [V] at hz; exact hz
 have y:m+s.size<=maxLen:=by simp [maxLen]; omega
 have I:∀ (A:Value) (C:World) (k c:Nat),A = .slice (some ⟨w.heap.size,0,none⟩) k c->C.ownsRow 0 e 1 A k (d++Lib.strCells s)->∀ g ∈ ob A,g ∈ ob v\/(g=w.heap.size/\w.heap.size<C.heap.size):=fun A C k c T f g N=>by
  have h1:=yp N;have h2:=(f.lt _ h1).2;subst T;have h1:w.heap.size=g:=B1 h1;exact .inr ⟨h1.symm,az⟩
 by_cases J:∃ a,v = .slice a 0 0
 ·obtain ⟨Z,rfl⟩:=J;have hm0:m=0/\d=[]:=by
   rcases S with ⟨h1,h2,_⟩ | h1
   ·exact ⟨h1,h2⟩
   have hm:m=0:=by
    rcases h1.2 with ⟨_,n⟩ | ⟨g,l,D,T,_,_,H,_⟩
    ·exact n
    injection T with _ W _; exact W.symm
   refine ⟨hm,B7 ?_⟩;rw [h1.1,hm,O6]
  obtain ⟨rfl,rfl⟩:=hm0;have hob0:∀ g,g ∉ ob (.slice Z 0 0):=fun g N=>by cases Z <;> simp [ob] at N
  by_cases n:s.size=0
  ·refine ⟨.slice Z 0 0,w,?_,.inl ⟨az,Z,rfl⟩,(Kp.refl w).sub aa,fun g N=>.inl N⟩;have hf:=Lib.run_firstCells_string (P:=P) w 1 s;have H:Lib.strCells s=[]:=B7 (by rw [Lib.strCells_length]; exact n);rw [n,H] at hf;cases Z <;> simp [Builtin.append_,A5 Y,A5 B,sizeOf,typeInfo,V,K,Builtin.lenOf,n,hf,storeCells]
  obtain ⟨A,C,x,f,o,_⟩:=Lib.run_append_own_string (P:=P) w 0 t t' ty e i Y B V p K L (.slice none 0 0) 0 [] (World.ownsRow_nil _ _ _ _) s y U (F8 _);have q:=run_append_nil_string (P:=P) w t t' ty e i (.int .u8 0) Y B V p s az az (by rw [L]; omega);rw [x] at q;injection q with W e2;have heq:(Builtin.append_ #[t,t'] ty #[.slice Z 0 0,.string s]).run P w = .ok A C:=by
   cases Z with
   | none=>exact x
   | some b0=>
    rw [Lib.run_append_grow_string (P:=P) w t t' ty e i (.int .u8 0) Y B V p b0 0 0 [] aa aa s az az (by rw [L]; exact T3 az az),W,e2];have e3:(s.data.map fun b=>Value.int .u8 b.toNat)=(Lib.strCells s).toArray:=by
     apply G6;simp [Lib.strCells]
    simp [e3]
  exact ⟨A,C,heq,.inr (by simpa using f),⟨o.os,o.tape,o.output,o.size,fun b hb _=>o.block b hb (by simp [Value.ownBlock])⟩,fun g N=>I A C _ _ W (by simpa using f) g N⟩
 have f:w.ownsRow 0 e 1 v m d:=by
  rcases S with ⟨_,_,h⟩ | h1
  ·exact absurd h J
  exact h1
 obtain ⟨A,C,x,Q,o,_⟩:=Lib.run_append_own_string (P:=P) w 0 t t' ty e i Y B V p K L v m d f s y U (F8 _);obtain ⟨g,l,D,rfl,hc0,N,F,G,hl⟩:∃ g l D,v = .slice (some ⟨g,0,none⟩) m l/\l≠0/\w.heap[g]? = some (.cells D e (0,0))/\m<=l/\D.size=l/\(∀ j u,d[j]? = some u->w.cell? ((⟨g,0,none⟩:Addr).add j)=some u):=by
  rcases f.2 with ⟨h,_⟩ | ⟨g,l,D,rfl,_,N,F,_,G,_⟩
  ·exact absurd ⟨none,h⟩ J
  refine ⟨g,l,D,rfl,fun n=>J ⟨some ⟨g,0,none⟩,?_⟩,N,F,by simpa using G,f.cells (g:=g) rfl⟩;subst n;rw [show m=0 by omega]
 have X:ob (.slice (some ⟨g,0,none⟩) m l)=[g]:=by simp [ob,hc0]
 refine ⟨A,C,x,.inr Q,⟨o.os,o.tape,o.output,o.size,fun b hb H=>o.block b hb fun he=>H (by rw [X]; simpa [Value.ownBlock] using he)⟩,?_⟩;by_cases r:m+s.size<=l
 ·have q:=Lib.run_append_room_string (P:=P) w t t' ty e i Y B V K g m l D N s r az;rw [x] at q;injection q with W e2;intro g' hg';subst W;have h1:=yp hg';have h1:g=g':=B1 h1;subst h1;exact .inl (by rw [X]; simp)
 have q:=Lib.run_append_grow_string (P:=P) w t t' ty e i (.int .u8 0) Y B V p ⟨g,0,none⟩ m l d (by rw [K]; exact f.1) hl s az az (by rw [L]; exact T3 az az);rw [x] at q;injection q with W e2;exact I A C _ _ W Q
def vZ (hT:bz P G.shp T) (D:oh G ρ H w) (I:o9 (cx G ρ w) ρ fr F) {vb:Value} (h:Aa T ro fr H t t' a b=some r) (o:∀ p ∈ r.ob,p) (j:Rd (cx G ρ w) ρ a va) (J:Rd (cx G ρ w) ρ b vb) (K:ev F x=some va) (L:ev F y=some vb) :
  ∃ v k,aL P n F w (.call { callee:=.builtin .append,args:=#[x,y],argTypes:=#[t,t'] }) ty v k /\ fw G ro ρ w r F v k:=by
 unfold Aa at h;split at h
 ·rename_i e sz z N i s q c;obtain ⟨Q,S⟩:=(hT _ _ q).2;obtain ⟨d,⟨O,U,V⟩,u⟩:=S .u8 rfl;have A:=(hT _ _ c).2;cases J with | str hl=>
  have W:p0 (cx G ρ w) (s.b.flatMap (cellsOf .u8)) (Lib.strCells ⟨s.b.toArray⟩):=by
   have:Lib.strCells ⟨s.b.toArray⟩=s.b.map fun b=>Value.int .u8 (b.toNat:Int):=by simp [Lib.strCells]
   rw [this];generalize s.b=l;induction l with
   | nil=>exact .nil
   | cons b l X=>exact .cons .u8 X
  refine ns (ty:=ty) D I d W (fun m B f g=>?_) h o j;obtain ⟨Y,k,Z,C⟩:=tg (P:=P) (w:=w) (ty:=ty) Q A U (u rfl).2 f ⟨s.b.toArray⟩ (by simpa [Sh.bytes,ByteArray.size] using g);exact ⟨Y,k,fun a _ _ _ _ j=>by simp [execOp,resolve,invoke,builtin,j.ev K,j.ev L,o3.val,Z],by rw [show (ByteArray.mk s.b.toArray).size=s.b.length by simp [ByteArray.size]] at C; exact C⟩
 cases h
end
end Go.Proofs.YticbaadnibdbkaaGreat
