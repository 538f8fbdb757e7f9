/- What leads to the law, part 2. Conditions: each lemma's own. -/
import Derived.DeepKeys
import Derived.Laws.CopyRow
import Derived.Laws.IdiomStrings
import Derived.MapFrom
import Derived.MapKept
import Derived.Test.YticbaadnibdbkaaGreatNOM1
set_option linter.unusedVariables false
set_option linter.unusedSimpArgs false
set_option maxHeartbeats 2000000
set_option linter.defProp false
namespace Go.Proofs.YticbaadnibdbkaaGreat
open Go.RowKit
def afW:=@Nat.lt_of_le_of_lt
def ag3:=@Nat.div_le_self
def afM:=@Int.toNat_natCast
def afL:=@Nat.le_of_ble_eq_true
def ahG:=@Nat.or_lt_two_pow
def aa5:=@Int.eq_ofNat_of_zero_le
def aii:=@Int.le_trans
def aaZ:=@List.mem_singleton_self
def af4:=@Nat.mod_lt
def ajx:=@Nat.le_of_lt
def afK:=@Nat.mul_le_mul_right
def ahH:=@Nat.add_zero
def aeB:=@Option.map_eq_some_iff
def acA:=@List.mem_of_getElem?
def agr:=@List.forall_mem_cons
def afT:=@List.getElem_mem
def af6:=@Go.heap_alloc_new
def aju:=@dif_pos
def acx:=@of_decide_eq_true
def ajp:=@Nat.zero_mul
def ajy:=@List.drop_zero
def af5:=@List.drop_drop
def agW:=@List.getElem?_cons_succ
def ai2:=@Nat.mul_one
def ad8:=@List.append_nil
def agd:=@Array.ext'
def aiy:=@Go.Call.mk.injEq
def adU:=@List.getElem?_set_self
def afU:=@Go.setRow_heap
def ajz:=@List.take_zero
def ail:=@List.nil_append
def afY:=@List.drop_of_length_le
def ai3:=@List.take_take
def afR:=@Nat.min_eq_left
def ajA:=@Go.growslice_fits
def zB:AV->Value->Bool
 | .int n,.int .i64 m=>decide (n=m) && decide (n=0)
 | .u8 b,.int .u8 m=>decide (m=0) && decide (b=0)
 | .u64 n,.int .u64 m=>decide (m=0) && decide (n=0)
 | .bool e,.bool false=>!e.val
 | .str ⟨[]⟩,.string s=>s.data.toList.isEmpty
 | .em true,.slice none 0 0=>true
 | .fz _ a,.slice none 0 0=>a.isEmpty
 | .li _ a,.slice none 0 0=>a.isEmpty
 | .np,.pointer none=>true
 | .nf,.nilFunc=>true
 | .dead,v=>v.oneCell'
 | .xx (.er true) [],.nilIface=>true
 | .xx (.w n) [],.int .u32 m=>decide (m=0) && decide (n=0)
 | _,_=>false
def CR:List AV->List Value->Bool
 | [],[]=>true
 | a :: r,v :: b=>zB a v && CR r b
 | _,_=>false
def Ud (P:Program) (g:TypeId->Option (List LK)):List Go.Field->Nat->Option (List LK)
 | [],_=>some []
 | f :: r,o=>match g f.type with
  | some a=>match decide (f.offset=o) && decide (P.cellsOf f.type=a.length) && (f.name != "_"),Ud P g r (o+a.length) with
   | true,some l=>some (a++l)
   | _,_=>none
  | none=>none
def QN (P:Program):Nat->TypeId->Option (List LK)
 | 0,_=>none
 | d+1,t=>match P.underlying t with
  | some (.int k)=>some [.i k]
  | some .bool=>some [.b]
  | some .string=>some [.s]
  | some (.struct F)=>match Ud P (QN P d) F.toList 0 with
   | some a=>match decide (P.cellsOf t=a.length) with
    | true=>some a
    | false=>none
   | none=>none
  | _=>none
def eqB (P:Program) (t:TypeId) (a:List LK):Bool:=decide (QN P 8 t=some a) && P.keyTypeAt 8 t && !P.eqGuardType P.depth t
def EqT (P:Program) (t:TypeId) (z:List AV):Prop:=∀ a,Yf z=some a->eqB P t a=true
def agp (P:Program) (F:Array Go.Field) (t:TypeId):Prop:=∀ i,Lx t i abc=true->∃ f d,F[i]? = some f/\P.underlying f.type=some d/\kx d=false
def adz (P:Program) (shp:TypeId->Option Sh) (t:TypeId) (b:TI):Prop:=
 ((P.info? t).map (·.size)=some b.size/\∃ a:List Value,((P.info? t).bind (·.zero)).map Value.cells=some a.toArray/\CR b.zero a=true) /\
 match b.k with
 | .i k=>P.underlying t=some (.int k)
 | .bool=>P.underlying t=some .bool
 | .str=>P.underlying t=some .string
 | .sl e c=>P.underlying t=some (.slice e)/\∀ s,c=some s->shp e=some s/\(∃ z:List Value,(P.info? e).map (fun i=>(i.zero.map Value.cells,i.size,i.bytes))=some (some z.toArray,s.size,s.bytes)/\CR (cellsOf s (au s)) z=true)/\(s = .u8->P.underlying e=some (.int .u8)/\(P.info? e).bind (·.zero)=some (.int .u8 0))
 | .st g=>∃ F:Array Go.Field,P.underlying t=some (.struct F)/\F.toList.mapM (fun f=>(P.info? f.type).map fun i=>(f.offset,i.size))=some g/\(∀ q ∈ g,0<q.2)/\EqT P t b.zero/\agp P F t
 | .ar n e=>P.underlying t=some (.array n e)
 | .ifc=>P.underlying t=some (.interface (P.methodsAt t))
 | .ptr=>∃ e,P.underlying t=some (.pointer e)
 | .ms k e=>P.underlying t=some (.map k e)/\P.underlying k=some .string/\(P.info? e).bind (·.zero)=some (.int .i64 0)
 | .mg k e z=>P.underlying t=some (.map k e)/\P.underlying k=some (.int .i64)/\(P.info? e).bind (·.zero)=some (.agg (z.map KC.val).toArray)
 | .mp k e c=>P.underlying t=some (.map k e)/\P.underlying k=some (.int .i64)/\(∀ s,c=some s->∃ z a,(P.info? e).bind (·.zero)=some z/\CR (cellsOf s (au s)) a=true/\((s.pn=true/\z = .agg a.toArray)\/(s.pn=false/\a=[z])))/\(c=none->(P.info? e).bind (·.zero)=some .nilFunc)
 | _=>∃ d,P.underlying t=some d/\kx d=false
def bh (P:Program) (shp:TypeId->Option Sh) (T:List (Nat × TI)):Prop:=∀ t a,a_ T t=some a->adz P shp t a
section
variable {c:Cx} {ρ:List RE}
def Ls {a:UInt8} {b:Nat}:Pd c (.u8 (UInt8.ofNat (a.toNat / 2 ^ b))) (.int .u8 ((a.toNat / 2 ^ b:Nat):Int)):=by
 have e:a.toNat / 2 ^ b=(UInt8.ofNat (a.toNat / 2 ^ b)).toNat:=by
  rw [UInt8.toNat_ofNat',Nat.mod_eq_of_lt (afW (ag3 _ _) a.toNat_lt)]
 rw [show ((a.toNat / 2 ^ b:Nat):Int)=((UInt8.ofNat (a.toNat / 2 ^ b)).toNat:Int) from congrArg _ e];exact Pd.u8
variable {a:AV}
theorem Wj {v:Value} (h:zB a v=true):Rd c ρ a v:=by
 unfold zB at h;split at h
 ·simp only [Bool.and_eq_true,decide_eq_true_eq] at h;obtain ⟨rfl,rfl⟩:=h;exact Pd.int ⟨aE,aE⟩
 ·simp only [Bool.and_eq_true,decide_eq_true_eq] at h;obtain ⟨rfl,rfl⟩:=h;exact Pd.u8
 ·simp only [Bool.and_eq_true,decide_eq_true_eq] at h;obtain ⟨rfl,rfl⟩:=h;exact Pd.u64 aE
 ·rename_i e;have:e.val=false:=by simpa using h
  rw [<- this];exact Pd.bool
 ·rename_i s;have:s=⟨#[]⟩:=by
   have d:s.data.toList=[]:=by simpa using h
   have f:s.data = #[]:=by
    grind
   cases s; simp_all
  subst this;exact Pd.str (s:=⟨[]⟩) aa
 ·exact Pd.em rfl
 ·rename_i s xs;have:xs=[]:=by simpa using h
  subst this;exact Pd.fz (xs:=([]:List (den s))) (cells:=[]) (Nat.le_refl _) (by simp [maxLen]) aa .nil (.inl rfl)
 ·rename_i b xs;have:xs=[]:=by simpa using h
  subst this;exact Pd.li (nw:=b) (xs:=[]) (k:=0) (Nat.le_refl _) (af3 _) aa aa (.inl rfl)
 ·rfl
 ·rfl
 ·exact h
 ·exact ⟨[],.nil,rfl,.inl ⟨rfl,rfl⟩⟩
 ·simp only [Bool.and_eq_true,decide_eq_true_eq] at h;obtain ⟨rfl,rfl⟩:=h;exact ⟨[],.nil,rfl,am,rfl⟩
 cases h
theorem jQ:∀ {b:List AV} {d:List Value},CR b d=true->All2 (Rd c ρ) b d
 | [],[],_=>.nil
 | a :: r,v :: d,h=>by
  simp only [CR,Bool.and_eq_true] at h;exact .cons (Wj h.1) (jQ h.2)
def ab4 {v:Value} (h:cAV v=some a):Rd c ρ a v:=by
 unfold cAV at h;split at h
 ·rename_i n;cases b:(decide (-9223372036854775808<=n) && decide (n<=9223372036854775807)) <;> rw [b] at h
  ·cases h
  cases h;simp only [Bool.and_eq_true,decide_eq_true_eq] at b;exact Pd.int b
 ·rename_i n;cases b:(decide (0<=n) && decide (n<256)) <;> rw [b] at h
  ·cases h
  cases h;simp only [Bool.and_eq_true,decide_eq_true_eq] at b;have e:n=((UInt8.ofNat n.toNat).toNat:Int):=by rw [UInt8.toNat_ofNat']; omega
  show Pd c _ _;rw [e,afM];have d:UInt8.ofNat (UInt8.ofNat n.toNat).toNat=UInt8.ofNat n.toNat:=UInt8.ofNat_toNat;rw [d];exact Pd.u8
 ·rename_i n;cases b:(decide (0<=n) && decide (n<18446744073709551616)) <;> rw [b] at h
  ·cases h
  cases h;simp only [Bool.and_eq_true,decide_eq_true_eq] at b;have e:n=(n.toNat:Int):=by omega
  show Pd c _ _;rw [e,afM];exact Pd.u64 aE
 ·rename_i n;cases b:(decide (0<=n) && decide (n<4294967296)) <;> rw [b] at h
  ·cases h
  cases h;simp only [Bool.and_eq_true,decide_eq_true_eq] at b;have e:((n.toNat:Nat):Int)=n:=by omega
  exact ⟨[],.nil,rfl,aE,by rw [e]⟩
 ·cases h; exact Pd.bool (e:=.lit _)
 ·rename_i s;cases b:Nat.ble s.data.toList.length 140737488355328 <;> rw [b] at h
  ·cases h
  cases h;have:=afL b;have e:=Pd.str (c:=c) (s:=⟨s.data.toList⟩) this;have d:(⟨s.data.toList⟩:Str).val = .string s:=by simp [Str.val]
  rw [d] at e;exact e
 ·cases h; exact Pd.em rfl
 ·cases h; rfl
 ·cases h; exact ⟨[],.nil,rfl,.inl ⟨rfl,rfl⟩⟩
 ·cases h; rfl
 cases h
variable {tv:TV} {F:Fr}
theorem eH {fr:AFr} (h:FrR c ρ fr F) {i:Nat} (b:lookA fr i=some tv):∃ v,look F i=some v/\Rt c ρ tv v:=by
 induction h with
 | nil=>cases b
 | @cons p q fr F d _ e=>
  obtain ⟨f,g⟩:=q;unfold lookA at b;unfold look;grind
def aq {fr:AFr} (h:FrR c ρ fr F) {x:Operand} (b:dh fr x=some tv):∃ v,ev F x=some v/\Rt c ρ tv v:=by
 cases x with
 | tmp i=>exact eH h b
 | const v=>
  simp only [dh] at b;split at b
  ·rename_i a d;cases b;exact ⟨v,rfl,ab4 d⟩
  cases b
 | global g=>cases b
 | func f=>cases b; exact ⟨_,rfl,[],[],.nil,.nil,rfl⟩
theorem lT {fr:AFr} {F:Fr} (h:FrR c ρ fr F):∀ {f:List Operand} {d:List TV1},Da fr f=some d->∃ e,Rl F f=some e/\All2 (di c ρ) d e
 | [],d,b=>by cases b; exact ⟨[],rfl,.nil⟩
 | x :: r,d,b=>by
  simp only [Da] at b;split at b
  ·rename_i a l g i;cases b;obtain ⟨v,j,k⟩:=aq h g;obtain ⟨e,m,n⟩:=lT h i;exact ⟨v :: e,by simp only [Rl,j,m],.cons k n⟩
  cases b
theorem jU {fr:AFr} {F:Fr} (h:FrR c ρ fr F):∀ {f:List (Nat × Operand)} {d:List (Nat × TV1)},xr fr f=some d->∃ e,NH F f=some e/\All2 (fun p q=>p.1=q.1/\di c ρ p.2 q.2) d e
 | [],d,b=>by cases b; exact ⟨[],rfl,.nil⟩
 | (i,x) :: r,d,b=>by
  simp only [xr] at b;split at b
  ·rename_i a l g j;cases b;obtain ⟨v,k,m⟩:=aq h g;obtain ⟨e,n,o⟩:=jU h j;exact ⟨(i,v) :: e,by simp only [NH,k,n],.cons ⟨rfl,m⟩ o⟩
  cases b
end
section
variable {P:Program} {n:Nat} {fr:Fr} {w:World} {x y:Operand} {ty t t':TypeId}
def vH (z:Int) (h:0<=z):IntKind.u64.wrap z=((z.toNat % 18446744073709551616:Nat):Int):=by
 simp only [IntKind.wrap,IntKind.bits,IntKind.signed];simp;omega
variable {b a:Nat}
theorem R.Uy (c:ev fr x=some (.int .u64 (a:Int))) (d:ev fr y=some (.int .u64 (b:Int))):aF P n fr w (.binOp .add t x y t') ty (.int .u64 (((a+b) % 18446744073709551616:Nat):Int)) w:=by
 have:=R.UE (P:=P) (n:=n) (w:=w) (ty:=ty) (t:=t) (t':=t') c d;rw [vH _ aE] at this;grind
variable {kc:IntKind}
theorem R.GV (d:ev fr x=some (.int .u64 (a:Int))) (f:ev fr y=some (.int kc (b:Int))) (h:b<=64):aF P n fr w (.binOp .shl t x y t') ty (.int .u64 (((a*2 ^ b) % 18446744073709551616:Nat):Int)) w:=fun _ _ _ _ _ c=>by
 have e:IntKind.u64.wrap ((a:Int)*2 ^ b)=(((a*2 ^ b) % 18446744073709551616:Nat):Int):=by
  rw [show (a:Int)*2 ^ b=((a*2 ^ b:Nat):Int) by simp,vH _ (Int.natCast_nonneg _),afM]
 have g:Op.shift .shl .u64 (a:Int) kc (b:Int)=pure (.int .u64 (((a*2 ^ b) % 18446744073709551616:Nat):Int)):=by
  simp_all
 simp only [execOp,c.ev d,c.ev f,binOp_shl,g];rfl
def R.abb (i:ev fr x=some (.int .u64 (a:Int))) (j:ev fr y=some (.int .u64 (b:Int))) (d:a<18446744073709551616) (f:b<18446744073709551616):aF P n fr w (.binOp .or t x y t') ty (.int .u64 ((a ||| b:Nat):Int)) w:=fun _ _ _ _ _ g=>by
 have e:bits .or .u64 (a:Int) (b:Int)=((a ||| b:Nat):Int):=by
  have h:∀ c:Nat,(BitVec.ofInt 64 (c:Int))=BitVec.ofNat 64 c:=fun c=>by rw [BitVec.ofInt_natCast]
  show IntKind.u64.wrap ((BitVec.ofInt 64 (a:Int) ||| BitVec.ofInt 64 (b:Int)).toNat:Int)=_;rw [h,h,BitVec.toNat_or,BitVec.toNat_ofNat,BitVec.toNat_ofNat,Nat.mod_eq_of_lt (by simpa using d),Nat.mod_eq_of_lt (by simpa using f)];exact wrap_u64 (ahG (n:=64) d f)
 simp [execOp,g.ev i,g.ev j,eqGuard_or,binOp_or,intBits_or,e]
variable {b a:Int}
def GF (h:0<=b) (c:I64 b):0<=ID a b/\ID a b<=b:=by
 obtain ⟨b,rfl⟩:=aa5 h;unfold ID;refine ⟨Int.natCast_nonneg _,?_⟩;rw [BitVec.toNat_and,BitVec.ofInt_natCast,BitVec.toNat_ofNat,Nat.mod_eq_of_lt (by have:=c.2; omega)];exact Int.ofNat_le.2 Nat.and_le_right
def R.ain (f:ev fr x=some (.int .i64 a)) (g:ev fr y=some (.int .i64 b)) (i:0<=b) (c:I64 b):aF P n fr w (.binOp .and t x y t') ty (.int .i64 (ID a b)) w:=fun _ _ _ _ _ d=>by
 have e:bits .and .i64 a b=ID a b:=by
  have h:=GF (a:=a) i c;have:=c.2;exact I64.wrap ⟨aii am h.1,aii h.2 this⟩
 simp [execOp,d.ev f,d.ev g,eqGuard_and,binOp_and,intBits_and,e]
def R.orI (j:ev fr x=some (.int .i64 a)) (k:ev fr y=some (.int .i64 b)) (l:0<=a) (m:0<=b) (o:I64 a) (p:I64 b):aF P n fr w (.binOp .or t x y t') ty (.int .i64 (Wv a b)) w/\I64 (Wv a b):=by
 obtain ⟨a,rfl⟩:=aa5 l;obtain ⟨b,rfl⟩:=aa5 m;have d:a<2 ^ 63:=by have:=o.2; omega
 have f:b<2 ^ 63:=by have:=p.2; omega
 have r:=ahG d f;have g:I64 (((a ||| b:Nat):Nat):Int):=⟨aE,aE⟩;have e:bits .or .i64 (a:Int) (b:Int)=((a ||| b:Nat):Int):=by
  have h:∀ c:Nat,(BitVec.ofInt 64 (c:Int))=BitVec.ofNat 64 c:=fun c=>by rw [BitVec.ofInt_natCast]
  show IntKind.i64.wrap ((BitVec.ofInt 64 (a:Int) ||| BitVec.ofInt 64 (b:Int)).toNat:Int)=_;rw [h,h,BitVec.toNat_or,BitVec.toNat_ofNat,BitVec.toNat_ofNat,Nat.mod_eq_of_lt aE,Nat.mod_eq_of_lt aE];exact g.wrap
 have q:Wv (a:Int) (b:Int)=((a ||| b:Nat):Int):=by unfold Wv; simp
 rw [q];refine ⟨fun _ _ _ _ _ i=>?_,g⟩;simp [execOp,i.ev j,i.ev k,eqGuard_or,binOp_or,intBits_or,e]
def R.air {b:Nat} (d:ev fr x=some (.int .i64 a)) (e:ev fr y=some (.int kc (b:Int))) (h:b<=64) (f:I64 (a*2 ^ b)):aF P n fr w (.binOp .shl t x y t') ty (.int .i64 (a*2 ^ b)) w:=fun _ _ _ _ _ c=>by
 have g:Op.shift .shl .i64 a kc (b:Int)=pure (.int .i64 (a*2 ^ b)):=by
  rw [shift_shl .i64 kc a (b:Int) (Int.natCast_nonneg b) (show (b:Int)<=((64:Nat):Int) by omega),afM,f.wrap]
 simp only [execOp,c.ev d,c.ev e,binOp_shl,g];rfl
theorem R.agc {a b:Str} (d:ev fr x=some a.val) (f:ev fr y=some b.val) (h:a.b.length+b.b.length<=140737488355328):aF P n fr w (.binOp .add t x y t') ty (Str.val ⟨a.b++b.b⟩) w:=fun _ _ _ _ _ c=>by
 have e:∀ u v:List UInt8,(⟨u.toArray⟩:ByteArray)++⟨v.toArray⟩=⟨(u++v).toArray⟩:=fun u v=>by
  apply ByteArray.ext;simp_all
 have g:∀ u:List UInt8,(⟨u.toArray⟩:ByteArray).size=u.length:=fun u=>by simp [ByteArray.size]
 have i:¬ (((a.b.length+b.b.length:Nat):Int) > IntKind.i64.max):=by
  simp only [show IntKind.i64.max=9223372036854775807 from rfl]; omega
 simp only [execOp,c.ev d,c.ev f,Str.val,eqGuard_add,binOp,Op.stringOp];simp_all
def R.aix (d:ev fr x=some (.int .i64 a)) (f:ev fr y=some (.int .i64 b)) (g:0<=a) (h:0<b) (i:I64 a):aF P n fr w (.binOp .quo t x y t') ty (.int .i64 (a.tdiv b)) w/\I64 (a.tdiv b):=by
 obtain ⟨a,rfl⟩:=aa5 g;obtain ⟨b,rfl⟩:=aa5 (Int.le_of_lt h);have e:(a:Int).tdiv b=((a / b:Nat):Int):=by rw [Int.tdiv_eq_ediv_of_nonneg aE]; omega
 have c:I64 ((a / b:Nat):Int):=by
  have:=ag3 a b;generalize a / b=q at *;unfold I64 at i ⊢; omega
 exact ⟨R.TR d f aE c.wrap,c⟩
def R.ai5 (d:ev fr x=some (.int .i64 a)) (f:ev fr y=some (.int .i64 b)) (g:0<=a) (h:0<b) (i:I64 a):aF P n fr w (.binOp .rem t x y t') ty (.int .i64 (a.tmod b)) w/\I64 (a.tmod b):=by
 obtain ⟨a,rfl⟩:=aa5 g;obtain ⟨b,rfl⟩:=aa5 (Int.le_of_lt h);have e:(a:Int).tmod b=((a % b:Nat):Int):=by rw [Int.tmod_eq_emod_of_nonneg aE]; omega
 have c:I64 ((a % b:Nat):Int):=by
  have:=Nat.mod_le a b;unfold I64 at i ⊢; omega
 exact ⟨R.TG d f aE,c⟩
end
section
variable {P:Program} {T:List (Nat × TI)} {G:Gl} {n:Nat} {F:Fr} {w:World} {x y:Operand} {ty t t':TypeId} {c:Cx} {ρ:List RE}
variable {r:PR} {op:BinOp} {b a:AV} {va:Value}
def LF (hT:bh P G.shp T) {vb:Value} (m:Pl T t a=true) (h:aaa op a b=some r) (d:∀ p ∈ r.ob,p) (s:Rd c ρ a va) (u:Rd c ρ b vb) (f:ev F x=some va) (g:ev F y=some vb) :
  ∃ v,aF P n F w (.binOp op t x y t') ty v w/\Rt c ρ r.v v/\r.fc=[]:=by
 unfold aaa at h;split at h
 ·-- ints
  cases s with | int j=>
  cases u with | int o=>
  split at h <;> cases h
  ·exact ⟨_,R.lss f g,Pd.bool (e:=.lt _ _),rfl⟩
  ·exact ⟨_,R.leq f g,Pd.bool (e:=.le _ _),rfl⟩
  ·exact ⟨_,R.gtr f g,Pd.bool (e:=.lt _ _),rfl⟩
  ·exact ⟨_,R.geq f g,Pd.bool (e:=.le _ _),rfl⟩
  ·exact ⟨_,R.eql f g,Pd.bool (e:=.eq _ _),rfl⟩
  ·exact ⟨_,R.neq f g,Pd.bool (e:=.not (.eq _ _)),rfl⟩
  ·have i:=d _ (aaZ _); exact ⟨_,R.add f g i,Pd.int i,rfl⟩
  ·have i:=d _ (aaZ _); exact ⟨_,R.sub f g i,Pd.int i,rfl⟩
  ·have i:=d _ (aaZ _); exact ⟨_,R.mul f g i,Pd.int i,rfl⟩
  ·have i:=d _ (acy); have l:=d _ (acs _ (aaZ _));have q:=R.aix (P:=P) (n:=n) (w:=w) (ty:=ty) (t:=t) (t':=t') f g i l j;exact ⟨_,q.1,Pd.int q.2,rfl⟩
  ·have i:=d _ (acy); have l:=d _ (acs _ (aaZ _));have q:=R.ai5 (P:=P) (n:=n) (w:=w) (ty:=ty) (t:=t) (t':=t') f g i l j;exact ⟨_,q.1,Pd.int q.2,rfl⟩
  ·have i:=d _ (aaZ _);have l:=fun z:Int=>GF (a:=z) i o;have q:=o.2;exact ⟨_,R.ain f g i o,Pd.int ⟨aii am (l _).1,aii (l _).2 q⟩,rfl⟩
  have i:=d _ (acy); have l:=d _ (acs _ (aaZ _));have q:=R.orI (P:=P) (n:=n) (w:=w) (ty:=ty) (t:=t) (t':=t') f g i l j o;exact ⟨_,q.1,Pd.int q.2,rfl⟩
 ·-- bytes
  cases s with | u8=>
  cases u with | u8=>
  split at h <;> cases h
  ·exact ⟨_,R.lss f g,Pd.bool (e:=.lt _ _),rfl⟩
  ·exact ⟨_,R.leq f g,Pd.bool (e:=.le _ _),rfl⟩
  ·exact ⟨_,R.gtr f g,Pd.bool (e:=.lt _ _),rfl⟩
  ·exact ⟨_,R.geq f g,Pd.bool (e:=.le _ _),rfl⟩
  ·exact ⟨_,R.eql f g,Pd.bool (e:=.eq _ _),rfl⟩
  ·exact ⟨_,R.neq f g,Pd.bool (e:=.not (.eq _ _)),rfl⟩
  ·exact ⟨_,R.afm f g,Pd.u8,rfl⟩
  ·exact ⟨_,R.aiK f g,Pd.u8,rfl⟩
  ·have i:=d _ (aaZ _);refine ⟨_,R.TG f g i,?_,rfl⟩;rw [<- UInt8.toNat_mod];exact Pd.u8
  have i:=d _ (aaZ _);refine ⟨_,R.TR f g i ?_,?_,rfl⟩
  ·rw [<- UInt8.toNat_div]; exact Ed (UInt8.toNat_lt _)
  rw [<- UInt8.toNat_div];exact Pd.u8
 ·cases s with | u64 j=>
  cases u with | u64 o=>
  split at h <;> cases h
  ·exact ⟨_,R.lss f g,Pd.bool (e:=.lt _ _),rfl⟩
  ·exact ⟨_,R.leq f g,Pd.bool (e:=.le _ _),rfl⟩
  ·exact ⟨_,R.gtr f g,Pd.bool (e:=.lt _ _),rfl⟩
  ·exact ⟨_,R.geq f g,Pd.bool (e:=.le _ _),rfl⟩
  ·exact ⟨_,R.eql f g,Pd.bool (e:=.eq _ _),rfl⟩
  ·exact ⟨_,R.neq f g,Pd.bool (e:=.not (.eq _ _)),rfl⟩
  ·exact ⟨_,R.Uy f g,Pd.u64 (af4 _ aE),rfl⟩
  ·exact ⟨_,R.abb f g j o,Pd.u64 (ahG (n:=64) j o),rfl⟩
  ·have i:=d _ (aaZ _);have l:=ag3;exact ⟨_,R.TR f g i (wrap_u64 (afW (l _ _) j)),Pd.u64 (afW (l _ _) j),rfl⟩
  ·have i:=d _ (aaZ _);exact ⟨_,R.TG f g i,Pd.u64 (afW (Nat.mod_le _ _) j),rfl⟩
  ·have i:=d _ (aaZ _);exact ⟨_,R.GV f g aE,Pd.u64 (af4 _ aE),rfl⟩
  have i:=d _ (aaZ _);exact ⟨_,R.PF f g (ajx i),Pd.u64 (afW (ag3 _ _) j),rfl⟩
 ·cases s with | u64 j=>
  cases u with | int o=>
  split at h <;> cases h
  ·have i:=d _ (acy); have l:=d _ (acs _ (aaZ _));rename_i k _ _ _;obtain ⟨k,rfl⟩:=aa5 i;exact ⟨_,R.GV f g aE,Pd.u64 (af4 _ aE),rfl⟩
  have i:=d _ (acy); have l:=d _ (acs _ (aaZ _));rename_i k _ _ _;obtain ⟨k,rfl⟩:=aa5 i;exact ⟨_,R.PF f g (show k<=64 by omega),Pd.u64 (afW (ag3 _ _) j),rfl⟩
 ·cases s with | int j=>
  cases u with | u64 o=>
  split at h <;> cases h;have i:=d _ (acy); have l:=d _ (acs _ (aaZ _));exact ⟨_,R.air f g (ajx i) l,Pd.int l,rfl⟩
 ·cases s with | u8=>
  cases u with | u64 o=>
  split at h <;> cases h;have i:=d _ (aaZ _);exact ⟨_,R.PF f g (ajx i),Ls,rfl⟩
 ·cases s with | bool=>
  cases u with | bool=>
  have A:P.underlying t=some .bool:=by
   simp only [Pl] at m;split at m
   ·rename_i i; exact (hT _ _ i).2
   cases m
  split at h <;> cases h
  ·exact ⟨_,R.ah3 f g A,Pd.bool (e:=.beq _ _),rfl⟩
  exact ⟨_,R.aiB f g A,Pd.bool (e:=.not (.beq _ _)),rfl⟩
 ·cases s with | str j=>
  cases u with | str o=>
  split at h <;> cases h
  ·exact ⟨_,R.ahw f g,Pd.bool (e:=.seq _ _),rfl⟩
  ·exact ⟨_,R.ai0 f g,Pd.bool (e:=.not (.seq _ _)),rfl⟩
  have i:=d _ (aaZ _);exact ⟨_,R.agc f g i,Pd.str (by rw [List.length_append]; exact i),rfl⟩
 ·cases s with | em j=>
  cases u with | @em _ B o=>
  have A:∃ e,P.underlying t=some (.slice e):=by
   simp only [Pl] at m;split at m
   ·rename_i e _ _ _ i; exact ⟨_,(hT _ _ i).2.1⟩
   cases m
  obtain ⟨e,A⟩:=A;obtain rfl:B=none:=Option.isNone_iff_eq_none.1 o.symm;subst j;split at h <;> cases h
  ·exact ⟨_,R.Mw f g A,Pd.bool (e:=.lit _),rfl⟩
  exact ⟨_,R.LS f g A,Pd.bool (e:=.lit _),rfl⟩
 cases h
def YX (a b:Int):I64 (aaz a b):=by
 unfold aaz; rw [IntKind.wrap_i64]; constructor <;> omega
def acd (a b:Int):I64 (Zd a b):=by
 unfold Zd; rw [IntKind.wrap_i64]; constructor <;> omega
def KT {O:bP} (hT:bh P G.shp T) {vb:Value} (d:Pl T t a=true) (h:aak O op a b=some r) (e:∀ p ∈ r.ob,p) (f:Rd c ρ a va) (g:Rd c ρ b vb) (i:ev F x=some va) (j:ev F y=some vb) :
  ∃ v,aF P n F w (.binOp op t x y t') ty v w/\Rt c ρ r.v v/\r.fc=[]:=by
 unfold aak at h;split at h
 ·cases h;cases f with | int k=>
  cases g with | int l=>
  exact ⟨_,R.aeO i j,Pd.int (YX _ _),rfl⟩
 ·cases h;cases f with | int k=>
  cases g with | int l=>
  exact ⟨_,R.UE i j,Pd.int (acd _ _),rfl⟩
 exact LF hT d h e f g i j
end
section
variable {G:Gl} {ρ:List RE} {H:AH} {w:World}
variable {id:Nat} {t:TypeId}
theorem bE (f:Rep G ρ H w) {s:Sh} {c:List (den s)} (h:getO H id = .row t s c):(ρ[id]? = some .emp/\c=[]) \/
  ∃ g b a d,ρ[id]? = some (.row g b c.length s.size)/\w.heap[g]? = some (.cells (List.toArray (a++d)) t (0,0))/\Pds (cx G ρ w) (c.flatMap (cellsOf s)) a/\(a++d).length=b*s.size/\c.length<=b/\b<=maxLen:=by
 obtain ⟨r,i,k,l,e⟩:=f.at_ (bM h aa);rcases e with ⟨rfl,e⟩ | ⟨g,b,a,d,rfl,j⟩
 ·grind
 exact .inr ⟨g,b,a,d,i,j⟩
def dD (b:Rep G ρ H w) {s:Sh} {a:List (den s)} (c:getO H id = .row t s a):G.shp t=some s/\a.length*s.bytes<=140737488355328:=by
 obtain ⟨r,f,d,e,g⟩:=b.at_ (bM c aa);exact ⟨d,e⟩
theorem cw {g:Nat} {cells sp:List Value} {f:Nat × Nat} (h:w.heap[g]? = some (.cells (List.toArray (cells++sp)) t f)):CellsAt w ⟨g,0,none⟩ cells:=fun j v a=>by
 rw [add_lit,acC,cell_of_row w g j _ t f h];grind
def CellsAt.drop {a:Addr} {b:List Value} (h:CellsAt w a b) (i:Nat):CellsAt w (a.add i) (b.drop i):=h.shift i
def bV {c:Cx} {s:Sh} {b:List (den s)} {a:List Value} (h:Pds c (b.flatMap (cellsOf s)) a) (i:Nat):Pds c ((b.drop i).flatMap (cellsOf s)) (a.drop (i*s.size)):=by
 rw [<- pq]; exact h.drop _
def bC {c:Cx} {s:Sh} {b:List (den s)} {a:List Value} (h:Pds c (b.flatMap (cellsOf s)) a) (i:Nat):Pds c ((b.take i).flatMap (cellsOf s)) (a.take (i*s.size)):=by
 rw [<- wJ]; exact h.take _
structure Sread (c:Cx) (s:Sh) (xs:List (den s)) (v:Value):Prop where
 ex:∃ a k cells,v = .slice a xs.length k/\xs.length<=k/\k<=maxLen/\Pds c (xs.flatMap (cellsOf s)) cells/\(xs=[]\/∃ A,a=some A/\A.block<c.w.heap.size/\CellsAt c.w A cells)
 le:xs.length*s.bytes<=140737488355328
theorem Pd.Wm {c:Cx} {s:Sh} {d:List (den s)} {v:Value} (h:Pd c (.fz s d) v) (f:∀ b,c.S b->b<c.w.heap.size):Sread c s d v:=by
 cases h with
 | fz g i j k e=>
  refine ⟨⟨_,_,_,rfl,g,i,k,?_⟩,j⟩;rcases e with e | ⟨A,l,a,m⟩
  ·grind
  exact .inr ⟨A,l,f _ a.1,m⟩
def oR {a b m M:Nat} (h:b*m<=M) (k:a<=b):a*m<=M:=Nat.le_trans (afK _ k) h
variable {a:AV}
theorem Gv (k:Rep G ρ H w) {s:Sh} {r:List (den s)} {v:Value} (e:a.vw H = .fz s r) (h:Rd (cx G ρ w) ρ a v):Sread (cx G ρ w) s r v:=by
 cases a with
 | fz u o=>simp only [AV.vw] at e; cases e; exact Pd.Wm h fun b A=>A.1
 | own id=>
  simp only [AV.vw] at e;split at e
  ·rename_i t u o m;cases e;have f:=(dD k m).2;rcases bE k m with ⟨x,rfl⟩ | ⟨g,n,c,B,l,p,q,C,y,z⟩
   ·rcases h with ⟨_,_,_,_,h,_⟩ | ⟨_,a,rfl⟩
    ·grind
    exact ⟨⟨a,0,[],rfl,Nat.le_refl _,by simp [maxLen],.nil,.inl rfl⟩,f⟩
   rcases h with ⟨_,_,_,_,h,rfl⟩ | ⟨h,_⟩
   ·rw [l] at h; cases h;exact ⟨⟨_,_,c,rfl,y,z,q,.inr ⟨_,rfl,(k.bnd _ _ g l rfl).2.1,cw p⟩⟩,f⟩
   grind
  cases e
 | sub id d len=>
  simp only [AV.vw] at e;split at e
  ·rename_i t u o m;cases e;have f:=(dD k m).2;have i:((o.drop d).take len).length*s.bytes<=140737488355328:=oR f (by simp; omega);rcases bE k m with ⟨x,rfl⟩ | ⟨g,n,c,B,l,p,q,C,y,z⟩
   ·rcases h with ⟨_,_,_,_,h,_⟩ | ⟨_,rfl,rfl,a,rfl⟩
    ·rw [x] at h; cases h
    exact ⟨⟨a,0,[],rfl,aa,by simp [maxLen],.nil,.inl rfl⟩,i⟩
   rcases h with ⟨_,_,_,_,h,D,rfl⟩ | ⟨h,_⟩
   ·rw [l] at h; cases h;have j:((o.drop d).take len).length=len:=by simp; omega
    refine ⟨⟨some ⟨g,d*s.size,none⟩,n - d,(c.drop (d*s.size)).take (len*s.size),by rw [j],by rw [j]; omega,aE,bC (bV q d) len,.inr ⟨_,rfl,(k.bnd _ _ g l rfl).2.1,?_⟩⟩,i⟩;have:=((cw p).drop (d*s.size)).take (len*s.size);rwa [add_lit,acC] at this
   rw [l] at h; cases h
  cases e
 | _=>simp [AV.vw] at e
theorem nE (u:Rep G ρ H w) {c:Cx} (m:(cx G ρ w).le c) (x:c.w=w) {v:Value} (h:Rd (cx G ρ w) ρ a v)
  (A:∀ g f len z,(∃ id,(a = .own id\/∃ o l,a = .sub id o l)/\ρ[id]? = some (.row g f len z))->c.S g) {s:Sh} {xs:List (den s)} (d:a.vw H = .fz s xs):Pd c (.fz s xs) v:=by
 cases a with
 | fz B n=>simp only [AV.vw] at d; cases d; exact Pd.carry h m
 | own id=>
  simp only [AV.vw] at d;split at d
  ·rename_i t B n p;cases d;have e:=(dD u p);rcases bE u p with ⟨C,rfl⟩ | ⟨g,f,cells,I,j,q,y,J,D,F⟩
   ·rcases h with ⟨_,_,_,_,h,_⟩ | ⟨_,a,rfl⟩
    ·grind
    exact .fz (xs:=([]:List (den s))) (cells:=[]) (Nat.le_refl _) (by simp [maxLen]) aa .nil (.inl rfl)
   rcases h with ⟨_,_,_,_,h,rfl⟩ | ⟨h,_⟩
   ·rw [j] at h; cases h;refine .fz D F e.2 (y.carry m) (.inr ⟨_,rfl,⟨A g _ _ _ ⟨id,.inl rfl,j⟩,.inr ⟨_,t,(0,0),by rw [x]; exact q,by rw [m.shp]; exact e.1,fun _=>rfl⟩⟩,by rw [x]; exact cw q⟩)
   grind
  cases d
 | sub id b len=>
  simp only [AV.vw] at d;split at d
  ·rename_i t B n p;cases d;have e:=(dD u p);have r:((n.drop b).take len).length*s.bytes<=140737488355328:=oR e.2 (by simp; omega);rcases bE u p with ⟨C,rfl⟩ | ⟨g,f,cells,I,j,q,y,J,D,F⟩
   ·rcases h with ⟨_,_,_,_,h,_⟩ | ⟨_,rfl,rfl,a,rfl⟩
    ·rw [C] at h; cases h
    exact .fz (xs:=([]:List (den s))) (cells:=[]) (Nat.le_refl _) (by simp [maxLen]) aa .nil (.inl rfl)
   rcases h with ⟨_,_,_,_,h,K,rfl⟩ | ⟨h,_⟩
   ·rw [j] at h; cases h;have i:((n.drop b).take len).length=len:=by simp; omega
    have:=Pd.fz (c:=c) (s:=s) (xs:=(n.drop b).take len) (a:=some ⟨g,b*s.size,none⟩) (k:=f - b) (cells:=(cells.drop (b*s.size)).take (len*s.size)) (by rw [i]; omega) aE r ((bC (bV y b) len).carry m) (.inr ⟨_,rfl,⟨A g _ _ _ ⟨id,.inr ⟨_,_,rfl⟩,j⟩,.inr ⟨_,t,(0,0),by rw [x]; exact q,by rw [m.shp]; exact e.1,fun _=>rfl⟩⟩,by
     rw [x];have:=((cw q).drop (b*s.size)).take (len*s.size);rwa [add_lit,acC] at this⟩)
    rwa [i] at this
   rw [j] at h; cases h
  cases d
 | _=>simp [AV.vw] at d
theorem Pd.oQ {c:Cx} {v:Value} (h:Pd c a v):∀ p ∈ a.ok,p:=by
 intro p d;cases h;case int b=>rw [acr.1 d]; exact b
 case u64 b=>rw [acr.1 d]; exact b
 case str b=>rw [acr.1 d]; exact b
 case fz b _ _ _ _=>rw [acr.1 d]; assumption
 all_goals cases d
def Pds.oQ {c:Cx}:∀ {b:List AV} {e:List Value},Pds c b e->∀ p ∈ Kl b,p
 | [],_,h=>by cases h; simp [Kl]
 | _ :: _,_,h=>by
  cases h with
  | cons f g=>
   intro p d;simp only [Kl,acq] at d;exact d.elim (f.oQ p) (g.oQ p)
def Rd.oQ {c:Cx} {a:AV} {v:Value} (h:Rd c ρ a v):∀ p ∈ a.ok,p:=by
 cases a;case int=>exact Pd.oQ h
 case u64=>exact Pd.oQ h
 case str=>exact Pd.oQ h
 case fz=>exact Pd.oQ h
 all_goals simp [AV.ok]
def XP.oQ {c:Cx} {b:List AV} {e:List Value} (h:All2 (Rd c ρ) b e):∀ p ∈ Kl b,p:=by
 induction h with
 | nil=>simp [Kl]
 | cons f _ g=>
  intro p d;simp only [Kl,acq] at d;exact d.elim (f.oQ p) (g p)
def di.oQ {c:Cx} {t:TV1} {v:Value} (h:di c ρ t v):∀ p ∈ t.ok,p:=by
 cases t with
 | c a=>exact Rd.oQ h
 | agg l=>obtain ⟨b,_,h⟩:=h; exact XP.oQ h
def Vl.oQ {c:Cx} {b:List TV1} {e:List Value} (h:All2 (di c ρ) b e):∀ p ∈ JV b,p:=by
 induction h with
 | nil=>simp [JV]
 | cons f _ g=>
  intro p d;simp only [JV,acq] at d;exact d.elim (f.oQ p) (g p)
theorem di.cells {c:Cx} {t:TV1} {v:Value} (h:di c ρ t v):∃ b,v.cells=List.toArray b/\All2 (Rd c ρ) t.cells b:=by
 cases t with
 | c a=>
  refine ⟨[v],?_,.cons h .nil⟩;have:=Rd.one h;cases v <;> simp_all [Value.cells,Value.oneCell']
 | agg l=>obtain ⟨d,rfl,h⟩:=h; exact ⟨d,rfl,h⟩
theorem El (p:Rep G ρ H w) {v:Value} (h:Rd (cx G ρ w) ρ a v) {q:List AV} {o:Nat} (b:xV H a=some (q,o)) :
  ∃ A e,v = .pointer (some A)/\CellsAt w A (e.drop o)/\All2 (Rd (cx G ρ w) ρ) q e:=by
 cases a <;> simp only [xV] at b;case ptr id k=>
  split at b
  ·rename_i t l m;cases b;obtain ⟨r,D,g,e,rfl,c,d⟩:=p.at_ (bM m aa);obtain ⟨F,u,rfl⟩:=h;rw [D] at u; cases u;refine ⟨_,e,rfl,?_,d⟩;have:=(cw (cells:=e) (sp:=[]) (by simpa using c)).drop o;rwa [add_lit,acC] at this
  cases b
 case elp id i k=>
  split at b
  ·rename_i t s j m;cases b;obtain ⟨g,I,len,z,c,d,rfl⟩:=h;rcases bE p m with ⟨O,rfl⟩ | ⟨F,y,cells,sp,f,J,K,P⟩
   ·grind
   rw [f] at c; cases c;have B:j[i]? = some j[i]:=List.getElem?_eq_getElem d;have L:j.getD i (au s)=j[i]:=by rw [List.getD_eq_getElem?_getD,B]; rfl
   rw [L];have C:=(K.drop (i*s.size)).take s.size;rw [nH B] at C;refine ⟨_,_,rfl,?_,gH C⟩;have:=(((cw J).drop (i*s.size)).take s.size).drop o;rwa [add_lit,add_lit,acC] at this
  cases b
 case fe s x k=>
  cases b;obtain ⟨A,cells,c,d,f,rfl⟩:=h;exact ⟨_,cells,rfl,d.drop _,gH f⟩
 case xx k l=>
  split at b;all_goals first | cases b | skip
  all_goals try (rename_i n; cases n)
  obtain ⟨N,c,A,rfl,d,f⟩:=h;exact ⟨A,N,rfl,f.drop _,by cases c with | cons c d=>cases d; exact .cons c .nil⟩
 all_goals cases b
end
section
variable {P:Program} {T:List (Nat × TI)} {G:Gl} {n:Nat} {F:Fr} {w:World} {x y:Operand} {ty t t':TypeId} {ρ:List RE} {H:AH}
variable {r:PR} {a:AV}
theorem Ao (hT:bh P G.shp T) (S:Rep G ρ H w) {v:Value} (h:Rd (cx G ρ w) ρ a v) (L:ev F x=some v) (f:EV T H t a=some r):∃ u,aF P n F w (.load t x) ty u w/\Rt (cx G ρ w) ρ r.v u/\r.ob=[]/\r.fc=[]:=by
 unfold EV at f;split at f
 ·rename_i B N o C D;obtain ⟨A,U,rfl,O,j⟩:=El S h D;obtain ⟨⟨I,_⟩,c⟩:=hT _ _ C;have l:∀ (_:Nat.ble (o+B.size) N.length=true) (d:TypeDesc),P.underlying t=some d->kx d=true->aF P n F w (.load t x) ty (.agg (((U.drop o).take B.size).toArray)) w:=fun p d q s=>by
   have V:=afL p;have Q:=j.length;exact R.WH L q s (by rw [I,List.length_take,List.length_drop]; congr 1; omega) (O.take _)
  have z:∀ (a:AV) (d:TypeDesc),P.underlying t=some d->kx d=false->N[o]? = some a->∃ u,aF P n F w (.load t x) ty u w/\Rd (cx G ρ w) ρ a u:=fun a d q s W=>by
   obtain ⟨u,J,X⟩:=dQ j o a W;refine ⟨u,R.Wo L q s ?_,X⟩;have:=O 0 u (by rw [aeb,ahH]; exact J);rwa [vG] at this
  split at f
  ·rename_i y g p;cases f;rw [g] at c;obtain ⟨Fs,J,_⟩:=c;exact ⟨_,l p _ J rfl,⟨_,rfl,(j.drop _).take _⟩,rfl,rfl⟩
  ·rename_i m e g p;cases f;rw [g] at c;exact ⟨_,l p _ c rfl,⟨_,rfl,(j.drop _).take _⟩,rfl,rfl⟩
  ·cases f
  ·cases f
  ·cases f
  rename_i k b h1 h2 h3;split at f
  ·rename_i a s;cases f;have:∃ d,P.underlying t=some d/\kx d=false:=by
    cases g:B.k <;> rw [g] at c;case i=>exact ⟨_,c,rfl⟩
    case bool=>exact ⟨_,c,rfl⟩
    case str=>exact ⟨_,c,rfl⟩
    case sl=>exact ⟨_,c.1,rfl⟩
    case st=>simp_all
    case ar=>simp_all
    case mp=>exact ⟨_,c.1,rfl⟩
    case ifc=>exact ⟨_,c,rfl⟩
    case ms=>exact ⟨_,c.1,rfl⟩
    case mg=>exact ⟨_,c.1,rfl⟩
    case ptr=>obtain ⟨e,c⟩:=c; exact ⟨_,c,rfl⟩
    all_goals exact c
   obtain ⟨d,q,K⟩:=this;obtain ⟨u,Y,Z⟩:=z a d q K s;exact ⟨u,Y,Z,rfl,rfl⟩
  cases f
 cases f
theorem yg {g c:Type} {f:g->Option c}:∀ {l:List g} {r:List c},l.mapM f=some r->∀ (i:Nat) (q:c),r[i]? = some q->∃ a,l[i]? = some a/\f a=some q
 | a :: l,r,h,i,q,d=>by
  simp only [List.mapM_cons,Option.bind_eq_bind,Option.bind_eq_some_iff] at h;obtain ⟨b,j,k,e,rfl⟩:=by simpa using h
  cases i with
  | zero=>simp at d; subst d; exact ⟨a,rfl,j⟩
  | succ i=>simpa using yg e i q (by simpa using d)
def Je (hT:bh P G.shp T) {c:Cx} {v:Value} {J:List (Nat × Nat)} {sz:Nat} {z:List AV} {i o k:Nat} (N:a_ T t=some ⟨.st J,sz,z⟩) (K:J[i]? = some (o,k)) (h:Rd c ρ a v) (q:ev F x=some v) (b:a.oZ o=some r) :
  ∃ u,aF P n F w (.fieldAddr t x i) ty u w/\Rt c ρ r.v u/\r.ob=[]/\r.fc=[]:=by
 obtain ⟨_,O,B,Q,S,_⟩:=hT _ _ N;obtain ⟨f,U,j⟩:=yg Q i _ K;rw [aeB] at j;obtain ⟨l,m,V⟩:=j;cases V;have W:=S _ (acA K);have d:(P.info? f.type).map (·.size)=some (l.size - 1+1):=by rw [m]; show some l.size=some _; congr 1; simp only at W; omega
 have C:O[i]? = some f:=by simpa using U
 cases a with
 | ptr id L=>
  simp only [AV.oZ,pr,Option.some.injEq] at b;subst b;obtain ⟨g,p,rfl⟩:=h;have:=R.fieldAddr (P:=P) (n:=n) (w:=w) (ty:=ty) q B C rfl d;rw [add_lit] at this;exact ⟨_,this,⟨g,p,rfl⟩,rfl,rfl⟩
 | elp id Y L=>
  simp only [AV.oZ,pr,Option.some.injEq] at b;subst b;obtain ⟨g,D,len,z,p,I,rfl⟩:=h;have:=R.fieldAddr (P:=P) (n:=n) (w:=w) (ty:=ty) q B C rfl d;rw [add_lit] at this;exact ⟨_,this,⟨g,D,len,z,p,I,by rw [Nat.add_assoc]⟩,rfl,rfl⟩
 | fe s Z L=>
  simp only [AV.oZ,pr,Option.some.injEq] at b;subst b;obtain ⟨A,e,p,I,X,rfl⟩:=h;have:=R.fieldAddr (P:=P) (n:=n) (w:=w) (ty:=ty) q B C rfl d;rw [add_add] at this;exact ⟨_,this,⟨A,e,p,I,X,rfl⟩,rfl,rfl⟩
 | _=>simp [AV.oZ] at b
end
def Cq:List Value->Value
 | [v]=>v
 | l=>.tuple l.toArray
def Sat (P:Program) (shp:TypeId->Option Sh) (f:Nat) (args:List TV1) (H:AH) (r:SpecR):Prop:=
 (∃ d,P.funcs[f]? = some d/\(d.name == "runtime.NumGoroutine")=false/\d.body.isNone=false) /\
 ∀ (G:Gl) (b:List RE) (w:World) (h:List Value),G.shp=shp->Rep G b H w->All2 (di (cx G b w) b) args h->jT P f h.toArray w fun v c=>∃ e,v=Cq e/\match r.out with
  | none=>Kp [] w c /\ All2 (di (cx G b c) b) r.rs e
  | some k=>∃ a,Rep G a k c /\ Ext b w a c /\ (∀ (i g:Nat),b[i]? = some (.blk g)->a[i]? = some (.blk g))/\All2 (di (cx G a c) a) r.rs e/\(r.keep=true->Kp [] w c /\ ∀ (i:Nat) (j:RE),b[i]? = some j->a[i]? = some j)
def aA (P:Program) (shp:TypeId->Option Sh) (O:bP):Prop:=∀ f args H r,O f args H=some r->(∀ p ∈ r.pre,p)->Sat P shp f args H r
theorem bw {i:Nat}:∀ {l:List Nat},cd i l=true↔i ∈ l
 | []=>by simp [cd]
 | j :: r=>by
  unfold cd;cases a:Nat.beq i j
  ·have:i≠j:=by rintro rfl; simp at a
   simp [bw,this]
  simp_all
theorem jr {σ:List Nat}:∀ {l:List Nat},qh σ l=true↔∀ i ∈ l,i ∈ σ
 | []=>by simp [qh]
 | j :: r=>by simp [qh,bw,jr]
theorem mL {σ:List Nat}:∀ {l:List Nat},pL σ l=true↔∀ i ∈ l,i ∉ σ
 | []=>by simp [pL]
 | j :: r=>by
  simp only [pL,Bool.and_eq_true,mL,agr,Bool.not_eq_true',<- Bool.not_eq_true,bw]
theorem jX:∀ {l:List Nat},lz l=true↔l.Nodup
 | []=>by simp [lz]
 | j :: r=>by
  simp only [lz,Bool.and_eq_true,jX,List.nodup_cons,Bool.not_eq_true',<- Bool.not_eq_true,bw]
theorem iJ {H:AH} {σ:List Nat}:∀ {l:List Nat},gL H σ l=true↔∀ i ∈ l,i<H.length/\∀ j ∈ (getO H i).ids,j ∈ σ
 | []=>by simp [gL]
 | j :: r=>by simp [gL,iJ,jr]
theorem ly {i:Nat}:∀ {σ:List Nat},i ∈ σ->σ[posOf i σ]? = some i
 | j :: r,h=>by
  unfold posOf;cases b:Nat.beq i j
  ·have a:i≠j:=by rintro rfl; simp at b
   have:i ∈ r:=by simpa [a] using h
   simpa using ly this
  simp_all
def dp (a:List RE) (σ:List Nat):List RE:=σ.map fun i=>a.getD i .no
variable {σ:List Nat} {i j:Nat} {ρ:List RE}
def oi (h:σ[j]? = some i):(dp ρ σ)[j]? = some (ρ.getD i .no):=by simp [dp,h]
variable {r:RE}
def getD_some (h:ρ[i]? = some r):ρ.getD i .no=r:=by rw [List.getD_eq_getElem?_getD,h]; rfl
def ir (h:i ∈ σ) (a:ρ[i]? = some r):(dp ρ σ)[posOf i σ]? = some r:=by rw [oi (ly h),getD_some a]
theorem fy (h:(dp ρ σ)[j]? = some r) (a:r ≠ .no):ρ[σ.getD j 0]? = some r:=by
 simp only [dp] at h;grind
def gr {b:Nat} (h:live (dp ρ σ) b):live ρ b:=by
 obtain ⟨j,r,c,a⟩:=h;exact ⟨_,r,fy c (by rintro rfl; cases a),a⟩
theorem mb {ρ a:List RE} {f:Nat->Nat}:∀ {l:List (Nat × Nat)} {b:List Value},(∀ i ∈ l.map (·.1),∀ g,ρ[i]? = some (.blk g)->a[f i]? = some (.blk g))->All2 (dY ρ) l b->All2 (dY a) (QF f l) b
 | [],_,_,h=>by cases h; exact .nil
 | (i,o) :: r,_,c,h=>by
  cases h with
  | cons k m=>
   obtain ⟨g,n,e⟩:=k;exact .cons ⟨g,c i aa g n,e⟩ (mb (fun j d=>c j (by simp at d ⊢; exact .inr d)) m)
def Rd.lR {c y:Cx} {ρ q:List RE} {f:Nat->Nat} {a:AV} {v:Value} (p:a.plain=true->Pd c a v->Pd y a v) (B:∀ s x o,a = .fe s x o->Rd y q a v) (C:∀ k A t,a = .xx k A->k.rd c t v->k.rd y t v) (m:∀ i ∈ a.ids,∀ r,ρ[i]? = some r->r ≠ .no->q[f i]? = some r) (h:Rd c ρ a v):Rd y q (a.lR f) v:=by
 cases a with
 | own id=>
  rcases h with ⟨g,d,len,z,h,e⟩ | ⟨h,e⟩
  ·exact .inl ⟨g,d,len,z,m id (by simp [AV.ids]) _ h aa,e⟩
  exact .inr ⟨m id (by simp [AV.ids]) _ h aa,e⟩
 | sub id o l=>
  rcases h with ⟨g,d,len,z,h,e⟩ | ⟨h,e⟩
  ·exact .inl ⟨g,d,len,z,m id (by simp [AV.ids]) _ h aa,e⟩
  exact .inr ⟨m id (by simp [AV.ids]) _ h aa,e⟩
 | ptr id o=>
  obtain ⟨g,h,e⟩:=h;exact ⟨g,m id (by simp [AV.ids]) _ h aa,e⟩
 | elp id i o=>
  obtain ⟨g,d,len,z,h,e⟩:=h;exact ⟨g,d,len,z,m id (by simp [AV.ids]) _ h aa,e⟩
 | fn g b A=>
  obtain ⟨G,t,D,F,e⟩:=h;refine ⟨G,t,mb (fun i u g w=>m i ?_ _ w aa) D,mb (fun i u g w=>m i ?_ _ w aa) F,e⟩
  ·simp only [AV.ids,acq]; exact .inl u
  simp only [AV.ids,acq]; exact .inr u
 | fe s x o=>exact B s x o rfl
 | xx k A=>
  obtain ⟨t,D,F⟩:=h;exact ⟨t,mb (fun i u g w=>m i u _ w aa) D,C k A t rfl F⟩
 | mq id=>
  obtain ⟨g,h,e⟩:=h;exact ⟨g,m id (by simp [AV.ids]) _ h aa,e⟩
 | np=>exact h
 | nf=>exact h
 | yl l=>exact h
 | dead=>exact h
 | int n=>exact p rfl h
 | u8 b=>exact p rfl h
 | u64 n=>exact p rfl h
 | bool e=>exact p rfl h
 | str s=>exact p rfl h
 | em b=>exact p rfl h
 | li I H=>exact p rfl h
 | fz s H=>exact p rfl h
theorem fU {f:Sh->Bool}:∀ {l:List Sh},jD f l=true↔∀ s ∈ l,f s=true
 | []=>by simp [jD]
 | s :: r=>by simp [jD,fU]
def jF {s:Sh} {x:den s} {a:Sh} {b:List (den a)} (h:AV.fz a b ∈ cellsOf s x):a ∈ s.gG:=by
 cases s with
 | nm t=>cases t <;> simp [cellsOf,NT.cells] at h <;> first | (simp [Sh.gG,NT.gG,h]; done) | (rcases h with h | h | h <;> simp [Sh.gG,NT.gG,h.1]; done) | (rcases h with h | h | h | h <;> simp [Sh.gG,NT.gG,h.1]; done) | (rcases h with h | h <;> simp [Sh.gG,NT.gG,h.1])
 | lst s=>simp [cellsOf] at h; simp [Sh.gG,h.1]
 | _=>simp [cellsOf] at h
def jW {s:Sh} {x:den s} {a:Bool} {b:List Int} (h:AV.li a b ∈ cellsOf s x):Sh.int ∈ s.gG:=by
 cases s with
 | nm t=>cases t <;> simp [cellsOf,NT.cells] at h <;> simp [Sh.gG,NT.gG]
 | lx=>simp [Sh.gG]
 | _=>simp [cellsOf] at h
def VZ (n:Nat) (b:Sh):AV->Bool
 | .fz s _=>Sh.no n b s
 | .li _ _=>Sh.no n b .int
 | _=>true
variable {c':Cx}
def XK.rd.unl {c:Cx} {e:List Sh} {k:XK} {q:List (Nat × Nat)} {m:List Value} {v:Value} (d:c'.w=c.w) (n:c'.shp=c.shp) (f:c'.B0=c.B0)
  (s:∀ b,c.S b->c'.S b\/(¬ b<c.B0/\∃ o ∈ e,∃ g t fr,c.w.heap[b]? = some (.cells g t fr)/\c.shp t=some o)) (h:k.rd c m v) (l:∀ b ∈ e,(AV.xx k q).no b=true):k.rd c' m v:=by
 by_cases p:e=[]
 ·subst p;exact h.le ⟨n,f,fun b a=>⟨(s b a).resolve_right fun ⟨_,o,h,_⟩=>by simp at h,by rw [d]⟩,fun b _ _=>by rw [d]⟩
 obtain ⟨b,a⟩:=List.exists_mem_of_ne_nil _ p;have:=l b a;cases k;case er=>exact h
 case bp=>exact h
 case w=>exact h
 case kf=>exact h
 case ff=>exact XK.Xr h ⟨n,f,fun b a=>⟨⟨by rw [f]; exact a.1,by rw [d]; exact a.2⟩,by show c'.w.heap[b]? = _; rw [d]; rfl⟩,fun b _ _=>by show c'.w.heap[b]? = _; rw [d]; rfl⟩
 all_goals simp [AV.no] at this
variable {a:AV}
theorem Pd.Qx {c:Cx} (u:List Sh) (q:c'.w=c.w) (K:c'.shp=c.shp) (H:c'.B0=c.B0)
  (W:∀ b,c.S b->c'.S b\/(¬ b<c.B0/\∃ L ∈ u,∃ d t fr,c.w.heap[b]? = some (.cells d t fr)/\c.shp t=some L)) {v:Value} (h:Pd c a v):∀ n,(∀ b ∈ u,VZ n b a=true)->Pd c' a v:=by
 refine @Pd.rec c (fun a v _=>∀ n,(∀ b ∈ u,VZ n b a=true)->Pd c' a v) (fun z X _=>∀ n,(∀ a ∈ z,∀ b ∈ u,VZ n b a=true)->Pds c' z X) ?_ ?_ ?_ ?_ ?_ ?_ ?_ ?_ ?_ ?_ a v h
 ·intro n f _ _; exact .int f
 ·intro b _ _; exact .u8
 ·intro n f _ _; exact .u64 f
 ·intro e _ _; exact .bool
 ·intro s f _ _; exact .str f
 ·intro b a f _ _; exact .em f
 ·intro s xs a k N f B O _ m ih n g;have l:∀ b ∈ u,s≠b/\∀ P ∈ s.gG,Sh.no (n - 1) b P = true:=fun b I=>by
   have:=g b I;cases n with
   | zero=>simp [VZ,Sh.no] at this
   | succ n=>
    simp only [VZ,Sh.no,Bool.and_eq_true,Bool.not_eq_true',decide_eq_false_iff_not,fU] at this;exact this
  refine .fz f B O (ih (n - 1) fun x J b I=>?_) ?_
  ·rw [List.mem_flatMap] at J;obtain ⟨y,_,Y⟩:=J;cases x with
   | fz P ys=>exact (l b I).2 P (jF Y)
   | li nw ys=>exact (l b I).2 .int (jW Y)
   | _=>rfl
  rcases m with m | ⟨A,Q,o,T⟩
  ·exact .inl m
  refine .inr ⟨A,Q,?_,by rw [q]; exact T⟩;rcases W _ o.1 with p | ⟨p,L,C,d,t,fr,Z,i⟩
  ·refine ⟨p,?_⟩;rw [H,q,K]; exact o.2
  rcases o.2 with j | ⟨D,t',U,j,h10,_⟩
  ·exact absurd j p
  grind
 ·intro nw xs a k f B O h4 m n g;refine .li f B O h4 ?_;rcases m with m | ⟨A,Q,hn,ho,T⟩
  ·exact .inl m
  have l:c.at .int A.block->c'.at .int A.block:=fun k=>by
   rcases W _ k.1 with p | ⟨p,L,C,D,t',U,Z,i⟩
   ·exact ⟨p,by rw [H,q,K]; exact k.2⟩
   rcases k.2 with V | ⟨d,t,fr,F,G,_⟩
   ·exact absurd V p
   rw [Z] at F; cases F;rw [i] at G; cases G;have:=g _ C;cases n <;> simp [VZ,Sh.no] at this
  refine .inr ⟨A,Q,fun e=>?_,fun e=>(ho e).imp (fun k=>⟨by rw [H]; exact k.1,by rw [q]; exact k.2⟩) l,by rw [q]; exact T⟩;obtain ⟨k1,V,d,t,fr,F,G,k6⟩:=hn e;have k5:=l ⟨k1,.inr ⟨d,t,fr,F,G,fun _=>k6⟩⟩;exact ⟨k5.1,by rw [H]; exact V,d,t,fr,by rw [q]; exact F,by rw [K]; exact G,k6⟩
 ·intro _ _; exact .nil
 intro a v r X _ _ f B n g;exact .cons (f n (g a aa)) (B n fun x J=>g x (by simp [J]))
theorem xz {b:Sh}:∀ {l:List AV},ZE b l=true↔∀ a ∈ l,a.no b=true
 | []=>by simp [ZE]
 | a :: r=>by simp [ZE,xz]
theorem xm {b:Sh}:∀ {l:List TV1},noT b l=true↔∀ t ∈ l,∀ a ∈ t.cells,a.no b=true
 | []=>by simp [noT]
 | a :: r=>by simp [noT,xm,xz]
theorem py {H:AH} {i:Nat} {t:TypeId} {s:Sh} {b:List (den s)} (h:getO H i = .row t s b):∀ {l:List Nat},i ∈ l->s ∈ fx H l
 | j :: r,hi=>by
  rcases acw.1 hi with rfl | hi
  ·simp [fx,h]
  have:=py h hi;unfold fx;grind
theorem ou {c c':Cx} {ρ d:List RE} {f:Nat->Nat}:∀ {b:List AV} {e:List Value},(∀ a ∈ b,∀ v,Rd c ρ a v->Rd c' d (a.lR f) v)->All2 (Rd c ρ) b e->All2 (Rd c' d) (Lo f b) e
 | [],_,_,h=>by cases h; exact .nil
 | a :: r,_,g,h=>by cases h with | cons k l=>exact .cons (g a aa _ k) (ou (fun x m=>g x (by simp [m])) l)
variable {t:TV1}
def QS {c:Cx} {b:List RE} {f:Nat->Nat} {v:Value} (d:∀ a ∈ t.cells,∀ v,Rd c ρ a v->Rd c' b (a.lR f) v) (h:di c ρ t v):di c' b (t.lR f) v:=by
 cases t with
 | c a=>exact d a (by simp [TV1.cells]) _ h
 | agg l=>obtain ⟨e,rfl,h⟩:=h; exact ⟨e,rfl,ou d h⟩
theorem lJ {c c':Cx} {ρ b:List RE} {f:Nat->Nat}:∀ {d:List TV1} {e:List Value},(∀ t ∈ d,∀ a ∈ t.cells,∀ v,Rd c ρ a v->Rd c' b (a.lR f) v)->All2 (di c ρ) d e->All2 (di c' b) (iS f d) e
 | [],_,_,h=>by cases h; exact .nil
 | t :: r,_,g,h=>by cases h with | cons k l=>exact .cons (QS (g t aa) k) (lJ (fun x m=>g x (by simp [m])) l)
theorem Rj {c c':Cx} {ρ d:List RE} {f:Nat->Nat} {H:AH}:∀ {b:List AV} {e:List Value},(∀ a ∈ b,∀ v,Rd c ρ a v->Rd c' d ((a.vw H).lR f) v)->All2 (Rd c ρ) b e->All2 (Rd c' d) (Lo f (Hj H b)) e
 | [],_,_,h=>by cases h; exact .nil
 | a :: r,_,g,h=>by cases h with | cons k l=>exact .cons (g a aa _ k) (Rj (fun x m=>g x (by simp [m])) l)
theorem DQ {c c':Cx} {ρ b:List RE} {f:Nat->Nat} {H:AH}:∀ {g:List TV1} {d:List Value},(∀ t ∈ g,∀ a ∈ t.cells,∀ v,Rd c ρ a v->Rd c' b ((a.vw H).lR f) v)->All2 (di c ρ) g d->All2 (di c' b) (iS f (Ic H g)) d
 | [],_,_,h=>by cases h; exact .nil
 | t :: r,_,k,h=>by
  cases h with
  | cons e m=>
   refine .cons ?_ (DQ (fun x n=>k x (by simp [n])) m);cases t with
   | c a=>exact k (.c a) aa a (by simp [TV1.cells]) _ e
   | agg l=>obtain ⟨d,rfl,e⟩:=e; exact ⟨d,rfl,Rj (k (.agg l) aa) e⟩
theorem lu {i:Nat}:∀ {l:List AV} {a:AV},a ∈ l->i ∈ a.ids->i ∈ yA l
 | b :: r,a,h,c=>by
  simp only [yA,acq];rcases acw.1 h with rfl | h
  ·grind
  exact .inr (lu h c)
theorem rL {i:Nat}:∀ {l:List (Int × AV)} {q:Int × AV},q ∈ l->i ∈ q.2.ids->i ∈ KA l
 | b :: r,q,h,c=>by
  simp only [KA,acq];rcases acw.1 h with rfl | h
  ·grind
  exact .inr (rL h c)
theorem mH {H:AH}:∀ {l:List Nat},pd H l=true↔∀ i ∈ l,∃ t s b,getO H i = .row t s b
 | []=>by simp [pd]
 | i :: r=>by
  simp only [pd,Bool.and_eq_true,mH,agr];grind
theorem qH {f:Nat->Nat}:∀ l:List (Int × AV),UL f l=l.map fun q=>(q.1,q.2.lR f)
 | []=>rfl
 | (k,a) :: r=>by simp [UL,qH r]
theorem kW {i:Nat}:∀ {l:List TV1} {t:TV1} {a:AV},t ∈ l->a ∈ t.cells->i ∈ a.ids->i ∈ qF l
 | b :: r,t,a,h,c,d=>by
  simp only [qF,acq];rcases acw.1 h with rfl | h
  ·exact .inl (lu c d)
  exact .inr (kW h c d)
def AE {H:AH} (h:a ∈ t.cells):a.vw H ∈ (t.vw H).cells:=by
 cases t with
 | c b=>simp only [TV1.cells,acr] at h; subst h; simp [TV1.vw,TV1.cells]
 | agg l=>
  simp only [TV1.cells] at h;simp only [TV1.vw,TV1.cells];induction l with
  | nil=>simp at h
  | cons b r d=>
   rcases acw.1 h with rfl | h
   ·simp [Hj]
   simp only [Hj,acw]; exact .inr (d h)
theorem yE {H:AH}:∀ {l:List TV1} {t:TV1},t ∈ l->t.vw H ∈ Ic H l
 | b :: r,t,h=>by
  rcases acw.1 h with rfl | h
  ·simp [Ic]
  simp only [Ic,acw]; exact .inr (yE h)
theorem Ct {i:Nat}:∀ {l:List AV} {a:AV},a ∈ l->(a = .own i\/∃ o k,a = .sub i o k)->i ∈ eU l
 | b :: r,a,h,c=>by
  rcases acw.1 h with rfl | h
  ·rcases c with rfl | ⟨o,k,rfl⟩ <;> simp [eU]
  have:=Ct h c;cases b <;> simp [eU,this]
theorem si {i:Nat}:∀ {l:List TV1} {t:TV1} {a:AV},t ∈ l->a ∈ t.cells->(a = .own i\/∃ o k,a = .sub i o k)->i ∈ fO l
 | b :: r,t,a,h,c,d=>by
  simp only [fO,acq];rcases acw.1 h with rfl | h
  ·exact .inl (Ct c d)
  exact .inr (si h c d)
def Nl {b:Sh} (h:a.no b=true):VZ 5 b a=true:=by cases a <;> first | rfl | exact h
theorem BV {H:AH}:∀ {σ:List Nat} {j i:Nat},σ[j]? = some i->(kO H σ)[j]? = some (getO H i)
 | k :: r,0,i,h=>by simp at h; subst h; simp [kO]
 | k :: r,j+1,i,h=>by simpa [kO] using BV (σ:=r) (by simpa using h)
theorem qQ {f:Nat->Nat}:∀ {l:List AO} {j:Nat} {o:AO},l[j]? = some o->(pC f l)[j]? = some (o.lR f)
 | k :: r,0,i,h=>by simp at h; subst h; simp [pC]
 | k :: r,j+1,i,h=>by simpa [pC] using qQ (l:=r) (by simpa using h)
theorem kX {f:Nat->Nat}:∀ {l:List AO},(pC f l).length=l.length
 | []=>rfl
 | _ :: r=>by simp [pC,kX]
theorem uQ {H:AH}:∀ {σ:List Nat},(kO H σ).length=σ.length
 | []=>rfl
 | _ :: r=>by simp [kO,uQ]
section
variable {G:Gl} {ρ:List RE} {H:AH} {w:World} {σ:List Nat}
def Rep.sub (C:Rep G ρ H w) {Z':Nat->Prop} (hn:lz σ=true) (hc:gL H σ σ=true) (hZ:∀ b,Z' b->b<w.heap.size) (J:∀ b,¬ G.Z b->¬ live ρ b->¬ Z' b) (K:∀ b,live (dp ρ σ) b->¬ Z' b) :
  Rep ⟨G.shp,G.B0,Z'⟩ (dp ρ σ) (pC (posOf · σ) (kO H σ)) w/\(cx G ρ w).le (cx ⟨G.shp,G.B0,Z'⟩ (dp ρ σ) w):=by
 have c:(cx G ρ w).le (cx ⟨G.shp,G.B0,Z'⟩ (dp ρ σ) w):=⟨rfl,rfl,fun b F=>⟨⟨F.1,fun hl=>F.2.1 (gr hl),J b F.2.2 F.2.1⟩,rfl⟩,fun _ _ _=>rfl⟩;have L:=iJ.1 hc;refine ⟨⟨cA (by simp [kX,uQ,dp]) fun j o r Y y=>?_,fun i j r r' g u p B I=>?_,fun i r g u p=>?_,hZ,C.b0,C.tb.carry c⟩,c⟩
 ·have N:j<σ.length:=by
   have:=(aaw.1 y).1;simpa [dp] using this
  have D:σ[j]? = some σ[j]:=List.getElem?_eq_getElem N;have z:σ[j] ∈ σ:=afT _;rw [oi D] at y;cases y;rw [qQ (BV (H:=H) D)] at Y;cases Y;obtain ⟨O,m⟩:=L _ z;have hH:H[σ[j]]? = some H[σ[j]]:=List.getElem?_eq_getElem O;have hO:getO H σ[j]=H[σ[j]]:=by unfold getO; rw [List.getD_eq_getElem?_getD,hH]; rfl
  obtain ⟨r,y,k⟩:=C.at_ hH;rw [getD_some y,hO];rw [hO] at m;generalize H[σ[j]]=o at k m;cases o with
  | gone=>exact k
  | mapo s f=>
   obtain ⟨g,rfl,h⟩:=k;exact ⟨g,rfl,h.carry c rfl⟩
  | loc=>trivial
  | mapf l=>
   obtain ⟨g,rfl,h⟩:=k;refine ⟨g,rfl,h.map (g0:=fun a=>a.lR (posOf · σ)) (qH l) (fun q hq v h=>Rd.lR (fun _ P=>P.carry c) (fun s x o e=>?_) (fun _ _ _ _ h=>h.le c) (fun i z r y _=>ir (m i (rL hq z)) y) h) rfl⟩;rw [e] at h ⊢;obtain ⟨A,d,Q,T,U,e⟩:=h;exact ⟨A,d,(c.S _ Q).1,T,U.carry c,e⟩
  | arr t s n xs=>
   obtain ⟨g,V,rfl,u,p,B⟩:=k;exact ⟨g,V,rfl,u,p.carry c,B⟩
  | box t cs=>
   obtain ⟨g,V,rfl,u,p⟩:=k;refine ⟨g,V,rfl,u,ou (fun a ha v h=>Rd.lR (fun _ P=>P.carry c) (fun s x o e=>?_) (fun _ _ _ _ h=>h.le c) (fun i z r y _=>ir (m i (lu ha z)) y) h) p⟩;subst e;obtain ⟨A,d,Q,T,U,e⟩:=h;exact ⟨A,d,(c.S _ Q).1,T,U.carry c,e⟩
  | row t s xs=>
   obtain ⟨u,p,B⟩:=k;exact ⟨u,p,B.imp id fun ⟨g,W,d,sp,e,I,h5,h6⟩=>⟨g,W,d,sp,e,I,h5.carry c,h6⟩⟩
 ·have X:=fy u (by rintro rfl; cases B);have e2:=fy p (by rintro rfl; cases I);have:=C.inj _ _ _ _ g X e2 B I;have z:i<σ.length:=by simpa [dp] using (aaw.1 u).1
  have N:j<σ.length:=by simpa [dp] using (aaw.1 p).1
  have a1:σ.getD i 0=σ[i]:=by rw [List.getD_eq_getElem?_getD,List.getElem?_eq_getElem z]; rfl
  have a2:σ.getD j 0=σ[j]:=by rw [List.getD_eq_getElem?_getD,List.getElem?_eq_getElem N]; rfl
  rw [a1,a2] at this;exact (List.getElem_inj (jX.1 hn)).1 this
 have X:=fy u (by rintro rfl; cases p);have:=C.bnd _ _ g X p;exact ⟨this.1,this.2.1,K g ⟨i,r,u,p⟩⟩
end
section
variable {P:Program} {G:Gl} {O:bP} {n:Nat} {F:Fr} {w:World} {ρ:List RE} {H:AH}
def uT (hO:aA P G.shp O) (hR:Rep G ρ H w) {f:Nat} {args:List TV1} {vs:List Value} {r:PR} (X:All2 (di (cx G ρ w) ρ) args vs) (h:Fi O H f args=some r) (hob:∀ p ∈ r.ob,p) :
  (∃ fn,P.funcs[f]? = some fn/\(fn.name == "runtime.NumGoroutine")=false/\fn.body.isNone=false)/\jT P f vs.toArray w fun v N=>Kp [] w N /\ Rt (cx G ρ N) ρ r.v v/\∀ p ∈ r.fc,p:=by
 unfold Fi at h;generalize hσ:tG H (Ic H args)=σ at h;simp only at h;split at h
 ·rename_i hck;simp only [Bool.and_eq_true] at hck;obtain ⟨⟨⟨⟨hn,hai⟩,hcl⟩,hno⟩,hrw⟩:=hck;split at h
  ·rename_i pre rs kp hrs;split at h
   ·rename_i hsh;cases h;have hai:=jr.1 hai;have hno:=mL.1 hno;let L:Nat->Prop:=fun b=>∃ id ∈ fO args,∃ rr,ρ[id]? = some rr/\rr.g? = some b
    let Z':Nat->Prop:=fun b=>G.Z b\/(live ρ b/\¬ live (dp ρ σ) b/\¬ L b)
    have Y:∀ b,L b->¬ live (dp ρ σ) b:=by
     rintro b ⟨id,D,rr,C,Q⟩ ⟨j,r2,y,U⟩;have e:=fy y (by rintro rfl; cases U);have e2:=hR.inj _ _ _ _ b C e Q U;have hj:j<σ.length:=by simpa [dp] using (aaw.1 y).1
     have a1:σ.getD j 0=σ[j]:=by rw [List.getD_eq_getElem?_getD,List.getElem?_eq_getElem hj]; rfl
     exact hno id D (by rw [e2,a1]; exact afT _)
    obtain ⟨hR',n⟩:=hR.sub (σ:=σ) (Z':=Z') hn hcl (fun b W=>W.elim (hR.z b) fun ⟨⟨i,r,C,Q⟩,_⟩=>(hR.bnd i r b C Q).2.1) (fun b C Q hz=>hz.elim C fun y=>Q y.1)
     (fun b C hz=>hz.elim (fun Q=>by obtain ⟨i,r,y,U⟩:=gr C; exact (hR.bnd i r b y U).2.2 Q) fun Q=>Q.2.1 C)
    obtain ⟨hfn,hrun⟩:=hO _ _ _ _ hrs hob;refine ⟨hfn,?_⟩;have hargs:All2 (di (cx ⟨G.shp,G.B0,Z'⟩ (dp ρ σ) w) (dp ρ σ)) (iS (posOf · σ) (Ic H args)) vs:=by
     refine DQ (fun t ht a ha v hv=>?_) X;have hids:∀ i ∈ (a.vw H).ids,i ∈ σ:=fun i hi=>hai i (kW (yE ht) (AE ha) hi);by_cases F:∃ id,a = .own id\/∃ o k,a = .sub id o k
     ·obtain ⟨id,D⟩:=F;have hmem:=si ht ha D;cases hv2:a.vw H with
      | fz s xs=>
       refine kU (nE hR n rfl hv (fun g d len z ⟨id',he,C⟩=>?_) hv2);have e:id' = id:=by rcases D with rfl | ⟨o,k,rfl⟩ <;> rcases he with he | ⟨_,_,he⟩ <;> cases he <;> rfl
       subst e;have V:L g:=⟨id',hmem,_,C,rfl⟩;have W:=hR.bnd _ _ g C rfl;exact ⟨W.2.1,Y g V,fun hz=>hz.elim W.2.2 fun Q=>Q.2.2 V⟩
      | dead=>exact Rd.one hv
      | _=>
       rcases D with rfl | ⟨o,k,rfl⟩ <;> simp only [AV.vw] at hv2 <;> split at hv2 <;> cases hv2
     have e:a.vw H=a:=by
      cases a <;> first | rfl | exact absurd ⟨_,.inl rfl⟩ F | exact absurd ⟨_,.inr ⟨_,_,rfl⟩⟩ F
     rw [e] at hids ⊢;refine Rd.lR (fun _ hp=>hp.carry n) (fun s x o e=>?_) (fun _ _ _ _ h=>h.le n) (fun i hi r hr _=>ir (hids i hi) hr) hv;subst e;obtain ⟨A,K,k1,k2,k3,e⟩:=hv;exact ⟨A,K,(n.S _ k1).1,k2,k3.carry n,e⟩
    refine (hrun ⟨G.shp,G.B0,Z'⟩ _ w vs rfl hR' hargs).mono fun v N ⟨J,hv,hk,hrs'⟩=>?_;refine ⟨hk,?_,Vl.oQ hrs'⟩;have hback:All2 (di (cx G ρ N) ρ) (iS (fun j=>σ.getD j 0) rs) J:=by
     refine lJ (fun t ht a ha u hu=>?_) hrs';have hno5:∀ b ∈ fx H (fO args),a.no b=true:=fun b W=>xm.1 (fU.1 hsh b W) t ht a ha;have hS:∀ b,(cx ⟨G.shp,G.B0,Z'⟩ (dp ρ σ) N).S b->(cx G ρ N).S b\/(¬ b<G.B0/\∃ sb ∈ fx H (fO args),∃ cur t fr,N.heap[b]? = some (.cells cur t fr)/\G.shp t=some sb):=by
      rintro b ⟨C,Q,y⟩;by_cases V:live ρ b
      ·right;have hlt:L b:=by
        by_cases hx:L b
        ·exact hx
        exact absurd (.inr ⟨V,Q,hx⟩) y
       obtain ⟨id,D,rr,U,h5⟩:=hlt;have W:=hR.bnd _ _ b U h5;refine ⟨aE,?_⟩;have hlen:id<H.length:=by
        have:=(aaw.1 U).1;rw [hR.obj.length]; exact this
       obtain ⟨r',hr',I⟩:=hR.at_ (List.getElem?_eq_getElem hlen);rw [U] at hr';cases hr';have hO:getO H id=H[id]:=by unfold getO; rw [List.getD_eq_getElem?_getD,List.getElem?_eq_getElem hlen]; rfl
       cases ho:H[id] with
       | gone=>rw [ho] at I; cases I; cases h5
       | box t cs=>
        exfalso;have:∀ (l:List TV1) (J:List Value),All2 (di (cx G ρ w) ρ) l J->id ∈ fO l->∃ g d len z,ρ[id]? = some (.row g d len z)\/ρ[id]? = some .emp:=by
         intro l J V;induction V with
         | nil=>intro h; simp [fO] at h
         | @cons t u l J C _ ih=>
          intro h;simp only [fO,acq] at h;rcases h with h | h
          ·obtain ⟨us',T,m⟩:=di.cells C;clear C T;generalize t.cells=q at h m;induction m with
           | nil=>simp [eU] at h
           | @cons a' v' _ _ y _ B=>
            cases a' <;> simp only [eU,acw] at h;case own j=>
             rcases h with rfl | h
             ·rcases y with ⟨g,d,len,z,y,_⟩ | ⟨y,_⟩
              ·exact ⟨g,d,len,z,.inl y⟩
              exact ⟨0,0,0,0,.inr y⟩
             exact B h
            case sub j o k=>
             rcases h with rfl | h
             ·rcases y with ⟨g,d,len,z,y,_⟩ | ⟨y,_⟩
              ·exact ⟨g,d,len,z,.inl y⟩
              exact ⟨0,0,0,0,.inr y⟩
             exact B h
            all_goals exact B h
          exact ih h
        obtain ⟨g,d,len,z,h6⟩:=this _ _ X D;rw [ho] at I;obtain ⟨g',vs',rfl,_⟩:=I;rcases h6 with h6 | h6 <;> rw [U] at h6 <;> cases h6
       | mapo s0 f0=>
        exfalso;have:∀ (l:List TV1) (J:List Value),All2 (di (cx G ρ w) ρ) l J->id ∈ fO l->∃ g d len z,ρ[id]? = some (.row g d len z)\/ρ[id]? = some .emp:=by
         intro l J V;induction V with
         | nil=>intro h; simp [fO] at h
         | @cons t u l J C _ ih=>
          intro h;simp only [fO,acq] at h;rcases h with h | h
          ·obtain ⟨us',T,m⟩:=di.cells C;clear C T;generalize t.cells=q at h m;induction m with
           | nil=>simp [eU] at h
           | @cons a' v' _ _ y _ B=>
            cases a' <;> simp only [eU,acw] at h;case own j=>
             rcases h with rfl | h
             ·rcases y with ⟨g,d,len,z,y,_⟩ | ⟨y,_⟩
              ·exact ⟨g,d,len,z,.inl y⟩
              exact ⟨0,0,0,0,.inr y⟩
             exact B h
            case sub j o k=>
             rcases h with rfl | h
             ·rcases y with ⟨g,d,len,z,y,_⟩ | ⟨y,_⟩
              ·exact ⟨g,d,len,z,.inl y⟩
              exact ⟨0,0,0,0,.inr y⟩
             exact B h
            all_goals exact B h
          exact ih h
        obtain ⟨g,d,len,z,h6⟩:=this _ _ X D;rw [ho] at I;obtain ⟨g',rfl,_⟩:=I;rcases h6 with h6 | h6 <;> rw [U] at h6 <;> cases h6
       | loc=>
        have:=mH.1 hrw id D;obtain ⟨t,s,xs,e⟩:=this;rw [hO,ho] at e; cases e
       | mapf l0=>
        exfalso;have:∀ (l:List TV1) (J:List Value),All2 (di (cx G ρ w) ρ) l J->id ∈ fO l->∃ g d len z,ρ[id]? = some (.row g d len z)\/ρ[id]? = some .emp:=by
         intro l J V;induction V with
         | nil=>intro h; simp [fO] at h
         | @cons t u l J C _ ih=>
          intro h;simp only [fO,acq] at h;rcases h with h | h
          ·obtain ⟨us',T,m⟩:=di.cells C;clear C T;generalize t.cells=q at h m;induction m with
           | nil=>simp [eU] at h
           | @cons a' v' _ _ y _ B=>
            cases a' <;> simp only [eU,acw] at h;case own j=>
             rcases h with rfl | h
             ·rcases y with ⟨g,d,len,z,y,_⟩ | ⟨y,_⟩
              ·exact ⟨g,d,len,z,.inl y⟩
              exact ⟨0,0,0,0,.inr y⟩
             exact B h
            case sub j o k=>
             rcases h with rfl | h
             ·rcases y with ⟨g,d,len,z,y,_⟩ | ⟨y,_⟩
              ·exact ⟨g,d,len,z,.inl y⟩
              exact ⟨0,0,0,0,.inr y⟩
             exact B h
            all_goals exact B h
          exact ih h
        obtain ⟨g,d,len,z,h6⟩:=this _ _ X D;rw [ho] at I;obtain ⟨g',rfl,_⟩:=I;rcases h6 with h6 | h6 <;> rw [U] at h6 <;> cases h6
       | arr t0 s0 n0 xs0=>
        exfalso;have:∀ (l:List TV1) (J:List Value),All2 (di (cx G ρ w) ρ) l J->id ∈ fO l->∃ g d len z,ρ[id]? = some (.row g d len z)\/ρ[id]? = some .emp:=by
         intro l J V;induction V with
         | nil=>intro h; simp [fO] at h
         | @cons t u l J C _ ih=>
          intro h;simp only [fO,acq] at h;rcases h with h | h
          ·obtain ⟨us',T,m⟩:=di.cells C;clear C T;generalize t.cells=q at h m;induction m with
           | nil=>simp [eU] at h
           | @cons a' v' _ _ y _ B=>
            cases a' <;> simp only [eU,acw] at h;case own j=>
             rcases h with rfl | h
             ·rcases y with ⟨g,d,len,z,y,_⟩ | ⟨y,_⟩
              ·exact ⟨g,d,len,z,.inl y⟩
              exact ⟨0,0,0,0,.inr y⟩
             exact B h
            case sub j o k=>
             rcases h with rfl | h
             ·rcases y with ⟨g,d,len,z,y,_⟩ | ⟨y,_⟩
              ·exact ⟨g,d,len,z,.inl y⟩
              exact ⟨0,0,0,0,.inr y⟩
             exact B h
            all_goals exact B h
          exact ih h
        obtain ⟨g,d,len,z,h6⟩:=this _ _ X D;rw [ho] at I;obtain ⟨g',vs',rfl,_⟩:=I;rcases h6 with h6 | h6 <;> rw [U] at h6 <;> cases h6
       | row t s xs=>
        rw [ho] at I hO;obtain ⟨h6,_,h7⟩:=I;refine ⟨s,py hO D,?_⟩;rcases h7 with ⟨rfl,_⟩ | ⟨g,d,K,sp,rfl,h8,_⟩
        ·cases h5
        cases h5;exact ⟨_,t,(0,0),(hk.block _ W.2.1 aa).trans h8,h6⟩
      left; exact ⟨C,V,fun hz=>y (.inl hz)⟩
     have hpd:∀ {b:AV} {u:Value},Pd (cx ⟨G.shp,G.B0,Z'⟩ (dp ρ σ) N) b u->(∀ sb ∈ fx H (fO args),VZ 5 sb b=true)->Pd (cx G ρ N) b u:=fun W hn=>Pd.Qx (c:=cx ⟨G.shp,G.B0,Z'⟩ (dp ρ σ) N) (c':=cx G ρ N) (fx H (fO args)) rfl rfl rfl hS W 5 hn;refine Rd.lR (fun _ hp=>hpd hp fun sb hsb=>Nl (hno5 sb hsb)) (fun s x o e=>?_) (fun k cs J e h=>h.unl (c:=cx ⟨G.shp,G.B0,Z'⟩ (dp ρ σ) N) (c':=cx G ρ N) rfl rfl rfl hS fun sb hsb=>e ▸ hno5 sb hsb) (fun i hi r hr hne=>fy hr hne) hu;subst e
     have hnil:fx H (fO args)=[]:=by
      cases hq:fx H (fO args) with
      | nil=>rfl
      | cons b l=>have:=hno5 b (by rw [hq]; simp); simp [AV.no] at this
     rw [hnil] at hS;have hS':(cx ⟨G.shp,G.B0,Z'⟩ (dp ρ σ) N).le (cx G ρ N):=⟨rfl,rfl,fun b W=>⟨(hS b W).resolve_right fun ⟨_,sb,h,_⟩=>by simp at h,rfl⟩,fun _ _ _=>rfl⟩;obtain ⟨A,K,k1,k2,k3,e⟩:=hu;exact ⟨A,K,(hS'.S _ k1).1,k2,k3.carry hS',e⟩
    subst hv;show Rt (cx G ρ N) ρ (JW (iS (fun j=>σ.getD j 0) rs)) (Cq J);generalize iS (fun j=>σ.getD j 0) rs=rs' at hback ⊢;cases hback with
    | nil=>exact ⟨[],rfl,.nil⟩
    | @cons t u l J C Q=>
     cases Q with
     | nil=>exact C
     | cons y U=>exact ⟨_,rfl,.cons C (.cons y U)⟩
   cases h
  cases h
 cases h
end
def Yields (P:Program) (n:Nat) (F:Fr) (w:World) (b:Op) (c:TypeId) (d:Value->World->Prop):Prop:=
 (∃ v e,aF P n F w b c v e /\ d v e)\/(∃ f args,Enters P n F w b c f args/\jT P f args w d)
def Yields.mono {P:Program} {n:Nat} {F:Fr} {w:World} {e:Op} {g:TypeId} {k l:Value->World->Prop} (h:Yields P n F w e g k) (m:∀ v b,k v b -> l v b):Yields P n F w e g l:=by
 rcases h with ⟨v,b,c,d⟩ | ⟨f,args,c,d⟩
 ·exact .inl ⟨v,b,c,m _ _ d⟩
 exact .inr ⟨f,args,c,d.mono m⟩
section
variable {P:Program} {n:Nat} {fr:Fr} {w:World} {x y:Operand} {ty t t' e:TypeId}
theorem R.PW {v:Value} {c:Cx} {d:List UInt8} (D:c.w=w) (F:ev fr x=some v) (p:P.underlying t=some (.slice e)) (q:P.underlying t' = some .string) (s:P.underlying e=some (.int .u8)) (h:Sread c .u8 d v) :
  aF P n fr w (.convert t t' x) ty (⟨d⟩:Str).val w:=fun _ _ _ _ _ G=>by
 obtain ⟨a,k,f,rfl,u,z,L,B⟩:=h.ex;have o:f=d.map fun b=>Value.int .u8 (b.toNat:Int):=by
  have:∀ (l:List UInt8) (m:List Value),Pds c (l.flatMap (cellsOf .u8)) m->m=l.map fun b=>Value.int .u8 (b.toNat:Int):=by
   intro l;induction l with
   | nil=>intro m h; cases h; rfl
   | cons b l H=>
    intro m h;cases h with
    | cons u z=>cases u; rw [H _ z]; rfl
  grind
 have g:(convert t t' (.slice a d.length k)).run P w = .ok (.string ⟨d.toArray⟩) w:=by
  cases a with
  | none=>
   have I:d=[]:=by
    grind
   subst I;rw [run_convert_bytes_string w t t' e none _ k p s q]; rfl
  | some A=>
   refine run_convert_bytes_back w t t' e A k d p s q fun j J=>?_;rcases B with B | ⟨N,K,_,C⟩
   ·grind
   cases K;rw [o,D] at C;exact C j _ (by simp [J])
 simp [execOp,G.ev F,g,Str.val]
def R.On {s:Str} (p:ev fr x=some s.val) (q:s.b.length<=140737488355328) (B:P.underlying t=some .string) (D:P.underlying t' = some (.slice e)) (F:P.underlying e=some (.int .u8)) :
  ∃ a k f,aF P n fr w (.convert t t' x) ty (.slice a s.b.length k) f /\ Kp [] w f /\ s.b.length<=k/\k<=maxLen/\a=some ⟨w.heap.size,0,none⟩/\w.heap.size<f.heap.size/\CellsAt f ⟨w.heap.size,0,none⟩ (s.b.map fun b=>Value.int .u8 (b.toNat:Int))/\∃ C G,f.heap[w.heap.size]? = some (.cells C e G):=by
 have c:=run_bytes_of_string w t t' e ⟨s.b.toArray⟩ B D F;have g:(⟨s.b.toArray⟩:ByteArray).size=s.b.length:=by simp [ByteArray.size]
 have h:=grownCap_ge w (⟨s.b.toArray⟩:ByteArray).size 0 e;have l:=grownCap_le_maxLen w (⟨s.b.toArray⟩:ByteArray).size 0 e (by rw [g]; simp [maxLen]; omega);generalize u:grownCap w (⟨s.b.toArray⟩:ByteArray).size 0 e=cap at *;generalize H:bytesRow ⟨s.b.toArray⟩ cap=C at c;have d:(w.drew.alloc (.cells C e (C.size,C.size+1))).heap[w.heap.size]? = some (.cells C e (C.size,C.size+1)):=af6 w.drew _;refine ⟨some ⟨w.heap.size,0,none⟩,cap,w.drew.alloc (.cells C e (C.size,C.size+1)),fun a _ _ _ _ I=>?_,?_,h,l,rfl,aa,fun j v z=>?_,C,_,d⟩
 ·rw [g] at c;simp [Str.val] at p;simp [execOp,I.ev p,c]
 ·have:=Kp.alloc w.drew (.cells C e (C.size,C.size+1));exact ⟨this.os,this.tape,this.output,this.size,this.block⟩
 rw [add_lit,acC,cell_of_row _ w.heap.size j C _ _ d];subst H;simp at z;obtain ⟨b,m,rfl⟩:=z;have A:j<s.b.length:=(aaw.1 m).1;rw [List.getElem?_eq_getElem A] at m;have o:=acD m;simp [bytesRow,A,Array.getElem?_append,o]
def n_ (s:Str):(⟨s.b.toArray⟩:ByteArray).size=s.b.length:=by simp [ByteArray.size]
variable {z:Operand} {k:IntKind}
def R.ahC {s:Str} (c:ev fr x=some s.val) (g:ev fr z=some (.int k (i:Int))) (d:P.underlying t=some .string) (l:i<=s.b.length):aF P n fr w (.slice t x (some z) none none) ty (⟨s.b.drop i⟩:Str).val w:=fun _ _ _ _ _ f=>by
 have h:=run_sliceAt_string (P:=P) w t (.string ⟨s.b.toArray⟩) (some (.int k (i:Int))) none none d;have:=run_slice_string_l (P:=P) w t ⟨s.b.toArray⟩ d k (i:Int) aE (by rw [n_]; omega);have e:s.cut i s.b.length=⟨s.b.drop i⟩:=by simp [Str.cut,<- List.length_drop]
 rw [<- e,<- Str.xT s i s.b.length];rw [n_,afM] at this;simp [Str.val] at c;simp [execOp,f.ev c,f.ev g,h,this]
def R.afo {s:Str} {c:IntKind} {g:Operand} (h:ev fr x=some s.val) (m:ev fr z=some (.int k (i:Int))) (d:ev fr g = some (.int c (j:Int))) (l:P.underlying t=some .string) (o:i<=j) (q:j<=s.b.length):aF P n fr w (.slice t x (some z) (some g) none) ty (⟨(s.b.drop i).take (j - i)⟩:Str).val w:=fun _ _ _ _ _ f=>by
 have p:=run_sliceAt_string (P:=P) w t (.string ⟨s.b.toArray⟩) (some (.int k (i:Int))) (some (.int c (j:Int))) none l;have:=run_slice_string (P:=P) w t ⟨s.b.toArray⟩ k c (i:Int) (j:Int) l aE aE (by rw [n_]; omega);have e:(⟨(s.b.drop i).take (j - i)⟩:Str)=s.cut i j:=rfl;rw [e,<- Str.xT s i j];simp [Str.val] at h;simp [execOp,f.ev h,f.ev m,f.ev d,p,this]
def R.afd {s:Str} (c:ev fr x=some s.val) (d:ev fr z=some (.int k (j:Int))) (f:P.underlying t=some .string) (g:j<=s.b.length):aF P n fr w (.slice t x none (some z) none) ty (⟨s.b.take j⟩:Str).val w:=by
 have:=R.ahU (P:=P) (n:=n) (w:=w) (ty:=ty) c d f g;have e:s.cut 0 j=⟨s.b.take j⟩:=by simp [Str.cut]
 rwa [e] at this
def R.aeC {s:Str} (c:ev fr x=some s.val) (f:ev fr y=some (.int k (i:Int))) (g:P.underlying t=some .string) (h:i<s.b.length):aF P n fr w (.index t x y) ty (.int .u8 ((s.b.getD i 0).toNat:Int)) w:=fun _ _ _ _ _ d=>by
 have:=run_index_string (P:=P) w t ⟨s.b.toArray⟩ k (i:Int) g;rw [aju ⟨aE,by rw [n_]; omega⟩] at this;simp [Str.val] at c;have e:((⟨s.b.toArray⟩:ByteArray)[(i:Int).toNat]'(by simp [ByteArray.size]; omega))=s.b.getD i 0:=by
  rw [List.getD_eq_getElem?_getD,List.getElem?_eq_getElem h];simp [ByteArray.getElem_eq_getElem_data]
 rw [e] at this;simp [execOp,d.ev c,d.ev f,this]
end
section
variable {P:Program} {T:List (Nat × TI)} {G:Gl} {n:Nat} {F:Fr} {w:World} {x y:Operand} {ty t t':TypeId} {ρ:List RE} {H:AH}
def DN (hT:bh P G.shp T) {s:Sh} (h:Xz T t=some s):∃ e,P.underlying t=some (.slice e)/\G.shp e=some s/\(∃ z:List Value,(P.info? e).map (fun i=>(i.zero.map Value.cells,i.size,i.bytes))=some (some z.toArray,s.size,s.bytes)/\CR (cellsOf s (au s)) z=true)/\(P.info? e).map (·.size)=some s.size/\(s = .u8->P.underlying e=some (.int .u8)/\(P.info? e).bind (·.zero)=some (.int .u8 0)):=by
 unfold Xz at h;split at h
 ·rename_i e p sz z d;subst h;obtain ⟨f,g⟩:=(hT _ _ d).2;obtain ⟨k,⟨l,b,m⟩,o⟩:=g s rfl;refine ⟨e,f,k,⟨l,b,m⟩,?_,o⟩;cases c:P.info? e with
  | none=>simp [c] at b
  | some i=>simp [c] at b ⊢; exact b.2.1
 cases h
def pK {b:AV} {i:Int} {v:Value} {c:Cx} (h:b.ix=some i) (d:Rd c ρ b v):∃ k,v = .int k i:=by
 cases b <;> simp [AV.ix] at h <;> cases h
 ·cases d with | int=>exact ⟨_,rfl⟩
 ·cases d with | u8=>exact ⟨_,rfl⟩
 cases d with | u64=>exact ⟨_,rfl⟩
theorem Rc {c:Cx} {s:Sh} {b:List (den s)} {v:Value} {x:den s} (h:Pd c (.fz s b) v) (f:b[i]? = some x):∃ A k,v = .slice (some A) b.length k/\i<b.length/\Rd c ρ (.fe s x 0) (.pointer (some (A.add (i*s.size))))/\∃ l,Pds c (cellsOf s x) l:=by
 have m:i<b.length:=(aaw.1 f).1;cases h with
 | fz q u z o g=>
  rcases g with g | ⟨A,rfl,d,p⟩
  ·grind
  have e:=(o.drop (i*s.size)).take s.size;rw [nH f] at e;refine ⟨A,_,rfl,m,⟨A.add (i*s.size),_,by rw [gb]; exact d.1,(p.shift _).take _,e,by rw [vG]⟩,_,e⟩
def oe {s:Sh} {b:List (den s)} (h:i<b.length):b[i]? = some (b.getD i (au s)):=by
 rw [List.getD_eq_getElem?_getD,List.getElem?_eq_getElem h]; rfl
theorem JP {a:Option Addr} {c s:Nat} {f:Sh} {e:List (den f)} {b:List Value} (p:i<=c) {A:Addr} (l:a=some A) (d:CellsAt c'.w A b) (g:c'.at f A.block) (k:Pds c' (e.flatMap (cellsOf f)) ((b.drop (i*s)).take (e.length*s))) (m:e.length<=c - i) (q:c<=maxLen) (o:e.length*f.bytes<=140737488355328) :
  Pd c' (.fz f e) (.slice (if c=i then a else a.map (·.add (i*s))) e.length (c - i)):=by
 refine .fz m aE o k ?_;by_cases h:c=i
 ·simp_all
 right;rw [if_neg h,l];exact ⟨A.add (i*s),rfl,by rw [gb]; exact g,(d.shift _).take _⟩
variable {r:PR} {va:Value}
theorem HQ (hT:bh P G.shp T) (Q:Rep G ρ H w) {c:Sh} {i:Int} {k:IntKind} (S:Xz T t=some c) (h:tI H c a i=some r) (b:∀ p ∈ r.ob,p) (I:Rd (cx G ρ w) ρ a va) (J:ev F x=some va) (K:ev F y=some (.int k i)) :
  ∃ v,aF P n F w (.indexAddr t x y) ty v w/\Rt (cx G ρ w) ρ r.v v/\∀ p ∈ r.fc,p:=by
 obtain ⟨e,L,_,_,f,_⟩:=DN hT S;cases a with
 | fz s l=>
  simp [tI] at h;split at h
  ·rename_i m;cases h;have o:c = s:=acx m;subst o;have q:=b _ (acy); have U:=b _ (acs _ (aaZ _));obtain ⟨j,rfl⟩:=aa5 q;have d:j<l.length:=by omega
   obtain ⟨A,X,rfl,_,u,Y,z⟩:=Rc (ρ:=ρ) I (oe d);exact ⟨_,R.jR J K L f rfl d,u,z.oQ⟩
  cases h
 | own id=>
  simp [tI] at h;split at h
  ·rename_i Z s l V;split at h
   ·rename_i m;cases h;have o:c = s:=acx m;subst o;have q:=b _ (acy); have U:=b _ (acs _ (aaZ _));obtain ⟨j,rfl⟩:=aa5 q;have d:j<l.length:=by omega
    rcases bE Q V with ⟨_,rfl⟩ | ⟨g,B,C,sp,N,h3,W,h5⟩
    ·simp at d
    rcases I with ⟨_,_,_,_,D,rfl⟩ | ⟨D,_⟩
    ·rw [N] at D; cases D;have:=R.jR (P:=P) (n:=n) (w:=w) (ty:=ty) J K L f rfl d;rw [add_lit,acC] at this;have O:=(W.drop (j*c.size)).take c.size;rw [nH (oe d)] at O;exact ⟨_,this,⟨g,B,l.length,c.size,N,d,rfl⟩,O.oQ⟩
    grind
   cases h
  cases h
 | _=>simp [tI] at h
def JL (hT:bh P G.shp T) {c:Cx} {l h:Option Int} {S U:Option Operand} (d:kP T t a l h=some r) (b:∀ p ∈ r.ob,p) (Z:Rd c ρ a va) (J:ev F x=some va)
  (N:∀ i,l=some i->∃ z,S=some z/\ev F z=some (.int .i64 i)) (K:l=none->S=none) (O:∀ i,h=some i->∃ z,U=some z/\ev F z=some (.int .i64 i)) (L:h=none->U=none) :
  ∃ v,aF P n F w (.slice t x S U none) ty v w/\Rt c ρ r.v v/\r.fc=[]:=by
 cases a with
 | fz s xs=>
  simp [kP] at d;split at d
  ·rename_i q y;split at d
   ·rename_i H;have e1:q = s:=acx H;subst e1;obtain ⟨e,u,_,_,B,_⟩:=DN hT y;cases Z with
    | @fz _ _ a k cells h1 h2 h3 Q V=>
    have m:∀ (i:Nat) (C:List (den q)),i<=xs.length->C.length<=xs.length - i->Pds c (C.flatMap (cellsOf q)) ((cells.drop (i*q.size)).take (C.length*q.size))->Pd c (.fz q C) (.slice (if k=i then a else a.map (·.add (i*q.size))) C.length (k - i)):=by
     intro i C W hy hp;rcases V with V | ⟨A,rfl,X,hc⟩
     ·subst V;have h00:([]:List (den q)).length=0:=rfl;have:C=[]:=acu aE;subst this;exact .fz (xs:=([]:List (den q))) (cells:=[]) aa aE aa .nil (.inl rfl)
     exact JP aE rfl hc X hp aE h2 (oR h3 aE)
    have Y:cells.length=xs.length*q.size:=by rw [<- Q.length,bU]
    split at d
    ·-- from l
     rename_i i;cases d;obtain ⟨z,rfl,o⟩:=N _ rfl;obtain rfl:=L rfl;have g:=b _ (acy); have D:=b _ (acs _ (aaZ _));obtain ⟨i,rfl⟩:=aa5 g;have W:i<=xs.length:=by omega
     have:=m i (xs.drop i) W aa (by
      rw [List.length_drop,List.take_of_length_le (by rw [List.length_drop,Y,Nat.sub_mul]; omega)];exact bV Q i)
     rw [List.length_drop] at this;exact ⟨_,R.dk J o u B rfl W,this,rfl⟩
    ·rename_i j;cases d;obtain ⟨z,rfl,o⟩:=O _ rfl;obtain rfl:=K rfl;have g:=b _ (acy); have D:=b _ (acs _ (aaZ _));obtain ⟨j,rfl⟩:=aa5 g;have hj:j<=xs.length:=by omega
     have f:(xs.take j).length=j:=by simp; omega
     have:=m 0 (xs.take j) aE (by simp; omega) (by
      rw [f,ajp,ajy];exact bC Q j)
     rw [f] at this;exact ⟨_,R.lE J o u B rfl aE,this,rfl⟩
    ·rename_i i j;cases d;obtain ⟨z,rfl,o⟩:=N _ rfl;obtain ⟨z',rfl,I⟩:=O _ rfl;have g:=b _ (acy); have D:=b _ (acs _ (acy)); have g2:=b _ (acs _ (acs _ (aaZ _)));obtain ⟨i,rfl⟩:=aa5 g;obtain ⟨j,rfl⟩:=aa5 (aii g D);have f:((xs.drop i).take (j - i)).length=j - i:=by simp; omega
     have:=m i ((xs.drop i).take (j - i)) aE (by simp; omega) (by
      rw [f];exact bC (bV Q i) (j - i))
     rw [f] at this;exact ⟨_,R.GM J o I u B rfl aE aE,this,rfl⟩
    cases d
   cases d
  cases d
 | str s=>
  simp [kP] at d;split at d
  ·rename_i sz z hf;have u:P.underlying t=some .string:=(hT _ _ hf).2;cases Z with
   | str y=>
   split at d
   ·cases d;obtain ⟨z,rfl,o⟩:=N _ rfl;obtain rfl:=L rfl;have g:=b _ (acy); have D:=b _ (acs _ (aaZ _));obtain ⟨i,rfl⟩:=aa5 g;exact ⟨_,R.ahC J o u aE,Pd.str (by simp; omega),rfl⟩
   ·cases d;obtain ⟨z,rfl,o⟩:=O _ rfl;obtain rfl:=K rfl;have g:=b _ (acy); have D:=b _ (acs _ (aaZ _));obtain ⟨i,rfl⟩:=aa5 g;exact ⟨_,R.afd J o u aE,Pd.str (by simp; omega),rfl⟩
   ·cases d;obtain ⟨z,rfl,o⟩:=N _ rfl;obtain ⟨z',rfl,I⟩:=O _ rfl;have g:=b _ (acy); have D:=b _ (acs _ (acy)); have g2:=b _ (acs _ (acs _ (aaZ _)));obtain ⟨i,rfl⟩:=aa5 g;obtain ⟨j,rfl⟩:=aa5 (aii g D);exact ⟨_,R.afo J o I u aE aE,Pd.str (by simp; omega),rfl⟩
   cases d
  cases d
 | _=>simp [kP] at d
theorem Uk (hT:bh P G.shp T) (J:Rep G ρ H w) {m:Int} (h:YM T H t a=some m) (l:Rd (cx G ρ w) ρ a va) (d:ev F x=some va):aF P n F w (.call { callee:=.builtin .len,args:=#[x],argTypes:=#[t] }) ty (.int .i64 m) w/\I64 m:=by
 have f:∀ k:Nat,k<=maxLen->I64 (k:Int):=fun k S=>by simp [maxLen] at S; exact ⟨aE,aE⟩
 unfold YM at h;split at h
 ·rename_i s K e B sz z c;cases h;cases l with
  | fz p q N U V=>exact ⟨R.len d (hT _ _ c).2.1,f _ (Nat.le_trans p q)⟩
 ·rename_i s sz z c;cases h;cases l with
  | str W=>exact ⟨R.aiM d (hT _ _ c).2,⟨aE,aE⟩⟩
 ·rename_i b e B sz z c;cases h;cases l with
  | em W=>exact ⟨R.len d (hT _ _ c).2.1,⟨aE,aE⟩⟩
 ·rename_i id e B sz z c;split at h
  ·rename_i X s K C;cases h;rcases bE J C with ⟨D,rfl⟩ | ⟨g,I,o,Y,q,N,U,V,u,O⟩
   ·rcases l with ⟨_,_,_,_,u,_⟩ | ⟨_,a,rfl⟩
    ·rw [D] at u; cases u
    exact ⟨R.len d (hT _ _ c).2.1,⟨aa,aa⟩⟩
   rcases l with ⟨_,_,_,_,v,rfl⟩ | ⟨v,_⟩
   ·rw [q] at v; cases v;exact ⟨R.len d (hT _ _ c).2.1,f _ (Nat.le_trans u O)⟩
   rw [q] at v; cases v
  cases h
 ·rename_i id Z len e B sz z c;split at h
  ·rename_i X s K C;cases h;rcases l with ⟨g,I,L,j,p,q,rfl⟩ | ⟨_,_,rfl,a,rfl⟩
   ·refine ⟨R.len d (hT _ _ c).2.1,?_⟩;rcases bE J C with ⟨D,_⟩ | ⟨r,Q,o,Y,N,_,_,_,u,O⟩
    ·rw [D] at p; cases p
    grind
   exact ⟨R.len d (hT _ _ c).2.1,⟨aa,aa⟩⟩
  cases h
 ·rename_i y e B sz z c;cases h;obtain ⟨us,p,A,rfl,q,_⟩:=l;have i:=p.length;rw [i];exact ⟨R.len d (hT _ _ c).2.1,⟨aE,aE⟩⟩
 cases h
end
end Go.Proofs.YticbaadnibdbkaaGreat
namespace Go.Proofs.YticbaadnibdbkaaGreat
open Go.RowKit
open Go.MapKept (IsKey run_checkKey run_findKey run_setObj_map heap_set heap_alloc run_keyThatStays)
theorem oU {k:Int}:∀ {l:List MapEntry} {i:Nat},(∀ e ∈ l,∃ k,e.key = .int .i64 k) ->
  (∃ j e,l[j]? = some e/\e.key = .int .i64 k/\Instr.findNow (.int .i64) (.int .i64 k) l i=some (some (i+j,e.val))/\getM k l=some e.val /\
   ∀ v q,getM q (l.modify j fun e=>{ e with key:=.int .i64 k,val:=v })=if q=k then some v else getM q l) \/
  (Instr.findNow (.int .i64) (.int .i64 k) l i=some none/\getM k l=none/\∀ v q b,getM q (l++[{ key:=.int .i64 k,val:=v,born:=b }])=if q=k then some v else getM q l)
 | [],i,_=>.inr ⟨rfl,rfl,fun v q b=>by
   by_cases a:q=k
   ·subst a; simp [getM,oV]
   have:¬ (k=q):=fun h=>a h.symm;simp [getM,oV,a,this]⟩
 | e :: l,i,h=>by
  obtain ⟨g,c⟩:=h e aa;have t:=fun x u=>h x (acs _ u);by_cases m:k=g
  ·subst m;refine .inl ⟨0,e,rfl,c,?_,?_,fun v q=>?_⟩
   ·simp [Instr.findNow,c,Instr.sameNow]
   ·simp [getM,oV,c]
   by_cases a:q=k
   ·subst a; simp [getM,oV]
   have d:¬ (k=q):=fun h=>a h.symm;simp [getM,oV,c,a,d]
  have s:(k == g)=false:=by simpa using m
  have f:¬ (g=k):=fun h=>m h.symm;rcases oU (k:=k) (i:=i+1) t with ⟨j,w,n,o,p,r,y⟩ | ⟨n,o,p⟩
  ·refine .inl ⟨j+1,w,n,o,?_,?_,fun v q=>?_⟩
   ·simp [Instr.findNow,c,Instr.sameNow,s,p]; omega
   ·simp [getM,oV,c,f,r]
   by_cases a:q=g
   ·subst a;simp [getM,oV,c,f]
   have d:¬ (g=q):=fun h=>a h.symm;have:=y v q;simp [getM,oV,c,d];grind
  refine .inr ⟨?_,?_,fun v q b=>?_⟩
  ·simp [Instr.findNow,c,Instr.sameNow,s,n]
  ·simp [getM,oV,c,f,o]
  by_cases a:q=g
  ·subst a;simp [getM,oV,c,f]
  have d:¬ (g=q):=fun h=>a h.symm;have:=p v q b;simp [getM,oV,c,d];simpa using this
section
variable {P:Program} {n:Nat} {F:Fr} {w:World} {x y z':Operand} {t ty kt et:TypeId} {g c:Nat} {k:Int} {a:Array MapEntry}
theorem R.q_ {z:Value} (ok:Bool) (p:ev F x=some (.map (some g))) (q:ev F y=some (.int .i64 k)) (r:P.underlying t=some (.map kt et)) (d:P.underlying kt=some (.int .i64)) (f:(P.info? et).bind (·.zero)=some z) (m:w.heap[g]? = some (.map a c)) (s:∀ e ∈ a.toList,∃ k,e.key = .int .i64 k) :
  aF P n F w (.lookup t x y ok) ty (if ok then .tuple #[(getM k a.toList).getD z,.bool (getM k a.toList).isSome] else (getM k a.toList).getD z) w:=fun v _ _ _ _ o=>by
 have b:IsKey (.int .i64) (.int .i64 k):=rfl;have A:(zeroValue et).run P w = .ok z w:=by
  cases h:P.info? et with
  | none=>simp [h] at f
  | some i=>simp [h] at f; simp [zeroValue,typeInfo,h,f]
 have e:(Instr.lookup t (.map (some g)) (.int .i64 k) ok).run P w = .ok (if ok then .tuple #[(getM k a.toList).getD z,.bool (getM k a.toList).isSome] else (getM k a.toList).getD z) w:=by
  unfold Instr.lookup;simp only [Sem.run_bind,run_underlying r];rcases oU (k:=k) (i:=0) s with ⟨j,B,_,_,l,u,_⟩ | ⟨l,u,_⟩
  ·simp only [Sem.run_bind,MapKept.run_getObj_map m,Result.andThen,Sem.run_pure,run_checkKey d b,run_findKey d l];grind
  simp only [Sem.run_bind,MapKept.run_getObj_map m,Result.andThen,Sem.run_pure,run_checkKey d b,run_findKey d l];grind
 simp [execOp,o.ev p,o.ev q,e]
def R.rV:aF P n F w (.makeMap t none) ty (.map (some w.heap.size)) (w.alloc (.map #[] 0)):=fun a _ _ _ _ b=>by
 simp [execOp,Instr.makeMap]
theorem UY {v:Value} (B:ev F x=some (.map (some g))) (C:ev F y=some (.int .i64 k)) (D:ev F z' = some v) (G:P.underlying t=some (.map kt et)) (s:P.underlying kt=some (.int .i64)) (p:w.heap[g]? = some (.map a c)) (H:∀ e ∈ a.toList,∃ k,e.key = .int .i64 k) :
  ∃ d b f,(gZ P n F w (.insert t x y z') ty d /\ gZ P n F w (.mapUpdate t x y z') ty d)/\Kp [g] w d /\ d.heap[g]? = some (.map b f)/\(∀ e ∈ b.toList,∃ k,e.key = .int .i64 k)/\∀ q,getM q b.toList=if q=k then some v else getM q a.toList:=by
 have l:IsKey (.int .i64) (.int .i64 k):=rfl;have r:∀ b f,(Instr.mapUpdate t (.map (some g)) (.int .i64 k) v).run P w = .ok () { w with heap:=w.heap.setIfInBounds g (.map b f) }->(∀ e ∈ b.toList,∃ k,e.key = .int .i64 k)->(∀ q,getM q b.toList=if q=k then some v else getM q a.toList) ->
   ∃ d b f,(gZ P n F w (.insert t x y z') ty d /\ gZ P n F w (.mapUpdate t x y z') ty d)/\Kp [g] w d /\ d.heap[g]? = some (.map b f)/\(∀ e ∈ b.toList,∃ k,e.key = .int .i64 k)/\∀ q,getM q b.toList=if q=k then some v else getM q a.toList:=by
  intro b f e o I;have J:=heap_set (o':=.map b f) p;refine ⟨{ w with heap:=w.heap.setIfInBounds g (.map b f) },b,f,⟨fun u _ _ _ _ m=>?_,fun u _ _ _ _ m=>?_⟩,⟨rfl,rfl,rfl,aa,fun i Q K=>J.2 i (by simpa using K)⟩,by simpa using J.1,o,I⟩
  ·simp [execOp,m.ev B,m.ev C,m.ev D,e]
  simp [execOp,m.ev B,m.ev C,m.ev D,e]
 rcases oU (k:=k) (i:=0) H with ⟨j,L,N,O,o,_,I⟩ | ⟨o,_,S⟩
 ·have z:a[j]? = some L:=by simpa using N
  refine r (a.modify j fun e=>{ e with key:=.int .i64 k,val:=v }) c ?_ ?_ ?_
  ·rw [acC] at o;simp [Instr.mapUpdate,run_underlying G,MapKept.run_getObj_map p,run_checkKey s l,run_findKey s o,z,O,run_keyThatStays l,run_setObj_map _ p,Result.andThen]
  ·intro e A;rcases MapFrom.mem_modify A with h | ⟨T,_,rfl⟩
   ·exact H e h
   grind
  grind
 refine r (a.push { key:=.int .i64 k,val:=v,born:=c }) (c+1) ?_ ?_ ?_
 ·simp [Instr.mapUpdate,run_underlying G,MapKept.run_getObj_map p,run_checkKey s l,run_findKey s o,run_setObj_map _ p,Result.andThen]
 ·grind
 grind
end
section
variable {c:Cx} {ρ:List RE} {s:Sh} {x:den s} {v:Value}
def Od {s:Sh} (h:s.pn=false) (x:den s):∃ a,cellsOf s x=[a]:=by
 cases s <;> first | exact ⟨_,rfl⟩ | cases h
def V1.rt (h:V1 c s x v):di c ρ (OZ s x) v:=by
 obtain ⟨f,b,⟨d,rfl⟩ | ⟨d,rfl⟩⟩:=h
 ·simp only [OZ,d]; exact ⟨f,rfl,gH b⟩
 obtain ⟨a,e⟩:=Od d x;simp only [OZ,d,e];rw [e] at b;cases b with | cons b _=>exact kU b
def V1.zero {z:Value} {a:List Value} (b:CR (cellsOf s (au s)) a=true) (h:(s.pn=true/\z = .agg a.toArray)\/(s.pn=false/\a=[z])):V1 c s (au s) z:=
 ⟨a,jH (ρ:=[]) (qm s _) (jQ b),h⟩
end
end Go.Proofs.YticbaadnibdbkaaGreat
namespace Go.Proofs.YticbaadnibdbkaaGreat
open Go.RowKit
def jB:Value->Lit
 | .int k n=>.int k n
 | .bool b=>.bool b
 | .string s=>.string s.data.toList
 | _=>.bool false
def acN (k:LK) (v:Value):Prop:=match k,v with
 | .i q,.int a n=>a = q/\(Lit.int q n).wf=true
 | .b,.bool _=>True
 | .s,.string s=>s.size<=maxLen
 | _,_=>False
def kv:List LK->List Value->Prop
 | [],[]=>True
 | k :: r,v :: l=>acN k v/\kv r l
 | _,_=>False
theorem kv.len:∀ {a:List LK} {b:List Value},kv a b->b.length=a.length
 | [],[],_=>rfl
 | _ :: _,_ :: _,h=>by rw [List.length_cons,List.length_cons,kv.len h.2]
def kv.split:∀ {ks l:List LK} {a:List Value},kv (ks++l) a->kv ks (a.take ks.length)/\kv l (a.drop ks.length)
 | [],_,_,h=>⟨trivial,h⟩
 | _ :: ks,l,_ :: a,h=>by
  obtain ⟨b,c⟩:=kv.split (ks:=ks) h.2;exact ⟨⟨h.1,b⟩,c⟩
section
variable {P:Program}
theorem vV {g:TypeId->Option (List LK)} {d:Nat} (i:∀ t a b,g t=some a->kv a b->P.keyLits d t b=some (b.map jB)) {cs:List Value}:∀ {F:List Go.Field} {o:Nat} {a:List LK},Ud P g F o=some a->kv a (cs.drop o) ->
  (F.mapM fun f=>P.keyLits d f.type ((cs.drop f.offset).take (P.cellsOf f.type))).map List.flatten=some ((cs.drop o).map jB)/\(∀ f ∈ F,(f.name != "_")=true)
 | [],o,a,h,k=>by
  cases h;have:cs.drop o=[]:=by
   have r:=kv.len k;grind
  grind
 | f :: F,o,a,h,k=>by
  simp only [Ud] at h;split at h
  ·rename_i j m;split at h
   ·rename_i l n p;cases h;simp only [Bool.and_eq_true] at n;obtain ⟨s,c⟩:=kv.split k;rw [af5] at c;obtain ⟨e,u⟩:=vV i p c;refine ⟨?_,fun x v=>?_⟩
    ·simp only [aeB] at e ⊢;obtain ⟨L,w,q⟩:=e;refine ⟨((cs.drop o).take j.length).map jB :: L,?_,?_⟩
     ·grind
     rw [List.flatten_cons,q,<- List.map_append,<- af5,List.take_append_drop]
    grind
   cases h
  cases h
theorem pF:∀ (d:Nat) (t:TypeId) (g:List LK) (a:List Value),QN P d t=some g->kv g a->P.keyLits d t a=some (a.map jB)
 | 0,_,_,_,h,_=>by cases h
 | d+1,t,g,a,h,k=>by
  unfold QN at h;unfold Program.keyLits;split at h
  ·rename_i q c;cases h;match a,k with
   | [.int x n],⟨⟨i,p⟩,_⟩=>subst i; simp [c,p,jB]
  ·rename_i c;cases h;match a,k with
   | [.bool b],_=>simp [c,jB]
  ·rename_i c;cases h;match a,k with
   | [.string s],⟨i,_⟩=>
    have i:s.size<=maxLen:=i;simp [c,jB,i]
  ·rename_i F c;split at h
   ·rename_i l r;split at h
    ·rename_i m;cases h;have m:=acx m;have j:=kv.len k;obtain ⟨y,u⟩:=vV (fun t g a=>pF d t g a) (cs:=a) (o:=0) r (by simpa using k);have v:F.all (·.name != "_")=true:=by
      rw [Array.all_eq_true_iff_forall_mem];intro f w;exact u f (Array.mem_toList_iff.2 w)
     have z:a.length=P.cellsOf t/\F.all (·.name != "_")=true:=⟨by rw [j,m],v⟩;rw [c];split
     ·rename_i e; cases e
     ·rename_i e; cases e
     ·rename_i e; cases e
     ·rename_i e; cases e
     ·grind
     grind
    cases h
   cases h
  cases h
theorem nS {c:Cx} {j:List RE}:∀ {d:List AV} {i:List Value} {f:List LK},Yf d=some f->All2 (Rd c j) d i->kv f i
 | [],_,_,h,k=>by cases h; cases k; trivial
 | a :: r,_,f,h,k=>by
  cases k with
  | cons e m=>
   simp only [Yf] at h;split at h
   ·rename_i q l n o;cases h;refine ⟨?_,nS o m⟩;cases a <;> cases n
    ·cases e with | int g=>exact ⟨rfl,by unfold I64 at g; simp [Lit.wf,IntKind.min,IntKind.bits,IntKind.signed]; omega⟩
    ·rename_i b;have:=b.toNat_lt;cases e with | u8=>exact ⟨rfl,by simp [Lit.wf,IntKind.min,IntKind.max,IntKind.bits,IntKind.signed]; omega⟩
    ·cases e with | u64 g=>exact ⟨rfl,by simp [Lit.wf,IntKind.min,IntKind.max,IntKind.bits,IntKind.signed]; omega⟩
    ·cases e with | bool=>trivial
    cases e with | str g=>exact (by simp [acN,Str.val,maxLen,ByteArray.size]; omega)
   cases h
variable {ρ:List RE}
def zn {c:Cx} {a b:AV} {u v:Value} {e:BE} (h:TQ a b=some e) (d:Rd c ρ a u) (f:Rd c ρ b v):e.val=true↔jB u=jB v:=by
 unfold TQ at h;split at h <;> cases h
 ·cases d; cases f; simp [BE.val,jB]
 ·cases d; cases f; simp [BE.val,jB]
 ·cases d; cases f; simp [BE.val,jB]
 ·cases d; cases f; simp [BE.val,jB]
 rename_i s g;cases d; cases f;cases s; cases g;simp [BE.val,jB,Str.val]
theorem sH {c:Cx} {ρ:List RE}:∀ {j n:List AV} {o p:List Value} {e:BE},Kd j n=some e->All2 (Rd c ρ) j o->All2 (Rd c ρ) n p->(e.val=true↔o.map jB=p.map jB)
 | [],[],_,_,_,h,k,m=>by cases h; cases k; cases m; simp [BE.val]
 | [a],[b],_,_,_,h,k,m=>by
  cases k with | cons d f=>cases f; cases m with | cons g i=>cases i; simpa using zn h d g
 | [a],b :: q :: l,_,_,_,h,_,_=>by
  simp only [Kd] at h;grind
 | a :: s :: r,[b],_,_,_,h,_,_=>by
  simp only [Kd] at h;grind
 | a :: s :: r,b :: q :: l,_,_,_,h,k,m=>by
  simp only [Kd] at h;split at h
  ·rename_i x y t u;cases h;cases k with | cons d f=>
   cases m with | cons g i=>
   have v:=zn t d g;have w:=sH u f i;simp only [BE.val,Bool.and_eq_true,v,w,afV,List.cons.injEq]
  cases h
variable {w:World} {t:TypeId}
theorem FF {a:List LK} {b c:List Value} (h:eqB P t a=true) (e:kv a b) (f:kv a c) (j:∃ F,P.underlying t=some (.struct F)) :
  P.eqGuardType P.depth t=false/\∃ r:Bool,(Op.equalIn 10000 t (.agg b.toArray) (.agg c.toArray)).run P w = .ok r w/\(r=true↔b.map jB=c.map jB):=by
 simp only [eqB,Bool.and_eq_true,decide_eq_true_eq,Bool.not_eq_true'] at h;obtain ⟨⟨d,k⟩,l⟩:=h;obtain ⟨F,g⟩:=j;have i:P.cellsOf t=a.length:=by
  unfold QN at d;grind
 refine ⟨l,?_⟩;have:=run_equalIn_deep (P:=P) 9992 8 t k w 8 8 (.agg b.toArray) (.agg c.toArray) (b.map jB) (c.map jB)
  (by simp [Value.formed,g,i,e.len]) (by simp [Value.formed,g,i,f.len])
  (by simpa [Value.cells] using pF 8 t a b d e) (by simpa [Value.cells] using pF 8 t a c d f)
 exact this
def VP {T:List (Nat × TI)} {G:Gl} {n:Nat} {F:Fr} {x y:Operand} {ty t':TypeId} {c:Cx} (hT:bh P G.shp T) {u:BinOp} {f A:List AV} {r:PR} {B C:List Value} (h:eqG T u t f A=some r) (m:All2 (Rd c ρ) f B) (o:All2 (Rd c ρ) A C) (D:ev F x=some (.agg B.toArray)) (H:ev F y=some (.agg C.toArray)) :
  ∃ v,aF P n F w (.binOp u t x y t') ty v w/\Rt c ρ r.v v/\r.fc=[]:=by
 unfold eqG at h;split at h
 ·rename_i O sz z L;obtain ⟨I,J,_,_,hE,_⟩:=(hT _ _ L).2;split at h
  ·rename_i k Q S N g i;have K:=hE _ N;split at h
   ·rename_i e j p;simp only [Bool.and_eq_true,decide_eq_true_eq] at j;obtain ⟨rfl,rfl⟩:=j;cases h;obtain ⟨q,b,a,d⟩:=FF (w:=w) K (nS g m) (nS i o) ⟨I,J⟩;have s:b=e.val:=aht.2 (d.trans (sH p m o).symm);subst s;refine ⟨_,fun _ _ _ _ _ l=>?_,Pd.bool (e:=e),rfl⟩;simp [execOp,l.ev D,l.ev H,run_eqGuard_agg w .eql t x y _ _ q,run_eql_struct,a]
   ·rename_i e j p;simp only [Bool.and_eq_true,decide_eq_true_eq] at j;obtain ⟨rfl,rfl⟩:=j;cases h;obtain ⟨q,b,a,d⟩:=FF (w:=w) K (nS g m) (nS i o) ⟨I,J⟩;have s:b=e.val:=aht.2 (d.trans (sH p m o).symm);subst s;refine ⟨_,fun _ _ _ _ _ l=>?_,Pd.bool (e:=.not e),rfl⟩;simp [execOp,l.ev D,l.ev H,run_eqGuard_agg w .neq t x y _ _ q,run_neq_struct,a,BE.val]
   cases h
  cases h
 cases h
end
section
variable {P:Program} {T:List (Nat × TI)} {G:Gl} {O:bP} {n:Nat} {F:Fr} {w:World} {x y:Operand} {ty t t':TypeId} {ρ:List RE} {H:AH}
variable {m:Nat}
theorem bc (h:m<18446744073709551616):IntKind.i64.wrap (m:Int)=eQ m:=by
 unfold eQ;simp only [IntKind.wrap,IntKind.bits,IntKind.signed];grind
def LM (h:m<18446744073709551616):I64 (eQ m):=by
 unfold eQ I64; split <;> omega
variable {r:PR} {op:Op}
def y0 {v:Value} (h:aF P n F w op ty v w) (b:Rt (cx G ρ w) ρ r.v v) (c:∀ p ∈ r.fc,p):Yields P n F w op ty fun v a=>Kp [] w a /\ Rt (cx G ρ a) ρ r.v v/\∀ p ∈ r.fc,p:=
 .inl ⟨v,w,h,Kp.refl w,b,c⟩
def rH (h:r.fc=[]):∀ p ∈ r.fc,p:=by rw [h]; simp
variable {b:TI} {u:AV} {va:Value}
def PK (hT:bh P G.shp T) (V:Rep G ρ H w) {a:TI} (ht:a_ T t=some a) (W:a_ T t' = some b) (h:Pu H a.k b.k u=some r) (K:∀ p ∈ r.ob,p) (j:Rd (cx G ρ w) ρ u va) (A:ev F x=some va) :
  Yields P n F w (.convert t t' x) ty fun v L=>Kp [] w L /\ Rt (cx G ρ L) ρ r.v v/\∀ p ∈ r.fc,p:=by
 have g:=(hT _ _ ht).2;have c:=(hT _ _ W).2;unfold Pu at h;split at h
 ·rename_i D J m d f;rw [d] at g; rw [f] at c;cases h;cases j with | int o=>
  have:=R.conv (P:=P) (n:=n) (w:=w) (ty:=ty) A g c
  rw [o.wrap] at this;exact y0 this (Pd.int o) aa
 ·rename_i D J m d f;rw [d] at g; rw [f] at c;cases h;cases j with | u8=>
  have hm:=m.toNat_lt;exact y0 (R.aaN A g c) (Pd.int ⟨aE,aE⟩) aa
 ·rename_i D J m d f;rw [d] at g; rw [f] at c;cases h;cases j with | u8=>
  have hm:=m.toNat_lt;exact y0 (R.Ri A g c aE) (Pd.u64 aE) aa
 ·rename_i D J m d f;rw [d] at g; rw [f] at c;cases h;cases j with | int o=>
  have X:=K _ (aaZ _);obtain ⟨m,rfl⟩:=aa5 X;exact y0 (R.YA A g c) Pd.u8 aa
 ·rename_i D J m d f;rw [d] at g; rw [f] at c;cases h;cases j with | int o=>
  have X:=K _ (aaZ _);obtain ⟨m,rfl⟩:=aa5 X;have:m<18446744073709551616:=by have:=o.2; omega
  exact y0 (R.Ri A g c this) (Pd.u64 this) aa
 ·rename_i D J m d f;rw [d] at g; rw [f] at c;cases h;cases j with | u64 o=>
  exact y0 (R.YA A g c) Pd.u8 aa
 ·rename_i D J m d f;rw [d] at g; rw [f] at c;cases h;cases j with | u64 o=>
  have:=R.conv (P:=P) (n:=n) (w:=w) (ty:=ty) A g c
  rw [bc o] at this;exact y0 this (Pd.int (LM o)) aa
 ·rename_i D J m d f;rw [d] at g; rw [f] at c;cases h;cases j with | u64 o=>
  exact y0 (R.Ri A g c o) (Pd.u64 o) aa
 ·rename_i D J e v1 d f;rw [d] at g; rw [f] at c;obtain ⟨N,Y⟩:=g;obtain ⟨_,_,U⟩:=Y .u8 rfl;split at h
  ·rename_i xs B;cases h;have I:=Gv V B j;refine y0 (R.PW rfl A N c (U rfl).1 I) (Pd.str ?_) aa;have:=I.le;simp only [Sh.bytes] at this;show xs.length<=_;omega
  ·rename_i b B;cases h;obtain ⟨q,j,B⟩:∃ q,Rd (cx G ρ w) ρ q va/\q.vw H = .em b:=⟨_,j,B⟩;cases q <;> simp only [AV.vw] at B;case em=>
    have I:Sread (cx G ρ w) .u8 [] va:=Pd.Wm (Pd.yp j) fun b hb=>hb.1;exact y0 (R.PW rfl A N c (U rfl).1 I) (Pd.str aa) aa
   case own=>split at B <;> cases B
   case sub=>split at B <;> cases B
   all_goals cases B
  cases h
 ·rename_i D e s d f;rw [d] at g; rw [f] at c;obtain ⟨Z,y⟩:=c;obtain ⟨Q,_,U⟩:=y .u8 rfl;cases h;cases j with | str O=>
  obtain ⟨a,k,L,S,hk,h1,h2,h3,h4,h5,C,fz,h6⟩:=R.On (P:=P) (n:=n) (fr:=F) (w:=w) (x:=x) (ty:=ty) (t:=t) (t':=t') (s:=s) A O g Z (U rfl).1;refine .inl ⟨_,L,S,hk,?_,aa⟩;have hp:Pds (cx G ρ L) (s.b.flatMap (cellsOf .u8)) (s.b.map fun b=>Value.int .u8 (b.toNat:Int)):=by
   generalize s.b=l;induction l with
   | nil=>exact .nil
   | cons b l ih=>exact .cons .u8 ih
  exact Pd.fz (s:=.u8) (xs:=s.b) h1 h2 (by simpa [Sh.bytes] using O) hp (.inr ⟨_,h3,⟨⟨h4,fun ⟨i,r,d,f⟩=>by have:=(V.bnd i r _ d f).2.1; simp at this,fun hz=>by have:=V.z _ hz; simp at this⟩,.inr ⟨C,e,fz,h6,Q,(fun e=>nomatch e)⟩⟩,h5⟩)
 cases h
def IE (d:Nat):∀ (e:List Value) (j:Nat) (a b:List Value),e.length<=b.length->a.length=d+j ->
  (e.zipIdx j).foldl (fun h (c:Value × Nat)=>h.setIfInBounds (d+c.2) c.1) (a++b).toArray=(a++e++b.drop e.length).toArray:=by
 intro e;induction e with
 | nil=>intro j a b _ _; simp
 | cons u e i=>
  intro j a b f g;cases b with
  | nil=>simp at f
  | cons k b=>
   simp only [List.zipIdx_cons,List.foldl_cons];have:((a++k :: b).toArray.setIfInBounds (d+j) u)=((a++[u])++b).toArray:=by simp [<- g]
   rw [this,i (j+1) (a++[u]) b (by simpa using f) (by simp [g]; omega)];simp
theorem pt {c:Cx} {N:List (Nat × Nat)} {place:Nat->Option (Nat × Nat)} (s:∀ (i:Nat) (q:Nat × Nat),N[i]? = some q->place i=some q):∀ {f:List (Nat × TV1)} {pv:List (Nat × Value)} {z:List AV} {d:List Value} {l:List AV},All2 (fun p q=>p.1=q.1/\di c ρ p.2 q.2) f pv->All2 (Rd c ρ) z d->lI N z f=some l ->
  ∃ g,Instr.fill place d.toArray pv=some (List.toArray g)/\All2 (Rd c ρ) l g
 | [],_,z,d,l,C,A,h=>by
  cases C;cases h;exact ⟨d,rfl,A⟩
 | (i,v) :: r,_,z,d,l,C,A,h=>by
  cases C with
  | @cons _ q _ Z S U=>
  obtain ⟨b,u⟩:=q;obtain ⟨e,V⟩:=S;simp only at e; subst e;simp only [lI] at h;split at h
  ·rename_i o k D;split at h
   ·rename_i j;simp only [Bool.and_eq_true] at j;have m:v.cells.length=k:=aaF j.1;have n:=afL j.2;obtain ⟨g,I,a⟩:=di.cells V;have B:v.cells.length=g.length:=a.length;have W:=A.length;have J:All2 (Rd c ρ) (over z o v.cells) (d.take o++g++d.drop (o+g.length)):=by
     unfold over;rw [<- B];exact ((A.take o).append a).append (A.drop _)
    obtain ⟨K,X,Y⟩:=pt s U J h;refine ⟨K,?_,Y⟩;simp only [Instr.fill,s _ _ D,I];have L:(g.toArray.zipIdx.foldl (fun l (c:Value × Nat)=>l.setIfInBounds (o+c.2) c.1) d.toArray)=(d.take o++g++d.drop (o+g.length)).toArray:=by
     have Q:=IE o g 0 (d.take o) (d.drop o) (by simp; omega) (by simp; omega);rw [List.take_append_drop,af5] at Q;rw [<- Q];simp
    rw [if_neg (by simp; omega)];refine Eq.trans ?_ X;congr 1
   cases h
  cases h
variable {parts:List (Nat × Operand)} {cs z:List AV} {l:List (Nat × TV1)} {sz:Nat}
theorem J_ (hT:bh P G.shp T) {c:Cx} {d:List (Nat × Nat)} {pv:List (Nat × Value)} (j:a_ T t=some ⟨.st d,sz,z⟩) (k:NH F parts=some pv) (o:All2 (fun p q=>p.1=q.1/\di c ρ p.2 q.2) l pv) (h:lI d z l=some cs) :
  ∃ a,aF P n F w (.build t parts.toArray) ty (.agg (List.toArray a)) w/\All2 (Rd c ρ) cs a:=by
 obtain ⟨⟨s,A,e,f⟩,B,C,D,_⟩:=hT _ _ j;obtain ⟨a,I,v⟩:=pt (place:=(d.toArray[·]?)) (fun i q g=>by simpa using g) o (jQ f) h;refine ⟨a,R.oT k ?_,v⟩;unfold Program.built;cases g:P.info? t with
 | none=>rw [g] at e; simp at e
 | some i=>
  simp only [aeB] at e;grind
variable {e:TypeId}
def xh {s:Sh} (hT:bh P G.shp T) (h:arS T e=some s):s.size=1/\(P.info? e).map (·.size)=some 1/\∃ d,P.underlying e=some d/\kx d=false:=by
 unfold arS at h;split at h <;> cases h <;> rename_i a <;> obtain ⟨⟨c,_⟩,f⟩:=hT _ _ a <;> exact ⟨rfl,c,_,f,rfl⟩
theorem vu:∀ {n k i:Nat} {q:Nat × Nat},(mG k n)[i]? = some q->q=(k+i,1)
 | n+1,k,0,q,h=>by simp [mG] at h; exact h.symm
 | n+1,k,i+1,q,h=>by
  rw [mG,agW] at h;rw [vu h,show k+1+i=k+(i+1) by omega]
theorem tJ (hT:bh P G.shp T) {c:Cx} {pv:List (Nat × Value)} (o:a_ T t=some ⟨.ar m e,sz,z⟩) (a:(P.info? e).map (·.size)=some 1) (s:NH F parts=some pv) (v:All2 (fun p q=>p.1=q.1/\di c ρ p.2 q.2) l pv) (h:lI (mG 0 m) z l=some cs) :
  ∃ d,aF P n F w (.build t parts.toArray) ty (.agg (List.toArray d)) w/\All2 (Rd c ρ) cs d:=by
 obtain ⟨⟨A,C,f,g⟩,D⟩:=hT _ _ o;obtain ⟨d,I,B⟩:=pt (place:=fun i=>some (i*1,1)) (fun i q j=>by rw [vu j]; simp) v (jQ g) h;refine ⟨d,R.oT s ?_,B⟩;unfold Program.built;cases j:P.info? t with
 | none=>rw [j] at f; simp at f
 | some i=>
  simp only [aeB] at f;cases k:P.info? e with
  | none=>rw [k] at a; cases a
  | some J=>
   grind
theorem oz {c:Cx}:∀ {l:List TV1} {q:List (Nat × Nat)} {j:List Value},kY l=some q->All2 (di c ρ) l j->All2 (dY ρ) q j
 | [],_,_,h,d=>by cases h; cases d; exact .nil
 | .c (.ptr id o) :: r,q,_,h,d=>by
  simp only [kY] at h;split at h
  ·rename_i l f;cases h;cases d with
   | cons g i=>exact .cons g (oz f i)
  cases h
 | .c a :: r,q,_,h,d=>by
  cases a with
  | ptr id o=>
   simp only [kY] at h;split at h
   ·rename_i l f;cases h;cases d with
    | cons g i=>exact .cons g (oz f i)
   cases h
  | _=>simp [kY] at h
theorem xU {c:Cx}:∀ {q:List (Nat × Nat)} {a:List Value},All2 (dY ρ) q a->All2 (di c ρ) (q.map fun q=>.c (.ptr q.1 q.2)) a
 | [],_,h=>by cases h; exact .nil
 | _ :: _,_,h=>by cases h with | cons d f=>exact .cons d (xU f)
variable {vs:List Value}
def E.Lh {f:FuncId} {d:Array TypeId} {a:Func} {i:List Operand} {b c:List Value} {fr:Fr} (k:ev fr x=some (.func (.func f) b.toArray c.toArray)) (g:Rl fr i=some vs) (o:P.funcs[f]? = some a) (p:(a.name == "runtime.NumGoroutine")=false) (q:a.body.isNone=false) :
  Enters P n fr w (.call { callee:=.value x,args:=i.toArray,argTypes:=d }) ty f (b++(vs++c)).toArray:=fun _ _ _ _ _ j=>by
 simp [execOp,resolve,j.ev k,Deferred.ofValue,invoke,callFunc,o,show ¬ a.name = "runtime.NumGoroutine" by simpa using p,show ¬ a.body=none by intro h; simp [h] at q,nv j g]
def ld {c:Cx} {fr:AFr} (i:FrR c ρ fr F) {a:Call} {f:Nat} {l:List TV1} (h:gX fr a=some (f,l)):∃ x s vs b d,a.callee = .value x/\a.args=List.toArray s/\ev F x=some (.func (.func f) (List.toArray b) (List.toArray d))/\Rl F s=some vs/\All2 (di c ρ) l (b++(vs++d)):=by
 unfold gX at h;split at h
 ·rename_i x A;split at h
  ·rename_i g b cs I j k;cases h;obtain ⟨v,o,J,B,C,D,rfl⟩:=aq i j;obtain ⟨vs,p,q⟩:=lT i k;exact ⟨x,a.args.toList,vs,J,B,A,aa,o,p,(xU C).append (q.append (xU D))⟩
  ·rename_i K I j k;split at h
   ·rename_i g;cases h;obtain ⟨v,o,B,C,D,rfl⟩:=aq i j;obtain ⟨vs,p,q⟩:=lT i k;exact ⟨x,a.args.toList,vs,[],[],A,aa,o,p,by simpa using q⟩
   cases h
  cases h
 cases h
theorem FX {s:Sh}:∀ {n k:Nat} {a:List (den s)},k+n=a.length->ym s a k n=(a.drop k).flatMap (cellsOf s)
 | 0,k,a,h=>by rw [List.drop_eq_nil_of_le aE]; rfl
 | n+1,k,a,h=>by
  rw [ym,FX aE,afP (show k<a.length by omega),List.flatMap_cons,List.getD_eq_getElem?_getD,List.getElem?_eq_getElem aE];rfl
theorem ll {c:Cx} {s:Sh}:∀ {cs:List AV} {d:List (den s)} {g:List Value},ui s cs=some d->All2 (Rd c ρ) cs g->Pds c (d.flatMap (cellsOf s)) g
 | [],_,_,h,f=>by cases h; cases f; exact .nil
 | a :: r,d,_,h,f=>by
  simp only [ui] at h;split at h
  ·rename_i x l i j;cases h;cases f with
   | cons k o=>
    exact (aK (vs:=[_]) i (.cons (fun p=>(gU p).1 k) .nil)).append (ll j o)
  cases h
variable {k:IntKind} {i:Nat}
def R.lq {cs:List Value} {v:Value} {d:TypeDesc} (h:ev F x=some (.agg cs.toArray)) (j:ev F y=some (.int k (i:Int))) (o:P.underlying t=some (.array m e)) (p:P.underlying e=some d) (s:kx d=false) (f:(P.info? e).map (·.size)=some 1) (A:i<m) (B:cs[i]? = some v) :
  aF P n F w (.index t x y) ty v w:=fun _ _ _ _ _ g=>by
 cases a:P.info? e with
 | none=>simp [a] at f
 | some q=>
  have c:q.size=1:=by simpa [a] using f
  have C:(Instr.index t (.agg cs.toArray) (.int k (i:Int))).run P w = .ok v w:=by
   unfold Instr.index;simp [asIntOf,run_underlying o,A,part,lZ p,s,sizeOf,typeInfo,a,c,B]
  simp [execOp,g.ev h,g.ev j,C]
def R.iC {g:Nat} (h:ev F x=some (.pointer (some ⟨g,0,none⟩))) (j:ev F y=some (.int k (i:Int))) (o:P.underlying t=some (.array m e)) (d:(P.info? e).map (·.size)=some 1) (s:i<m) :
  aF P n F w (.indexAddr t x y) ty (.pointer (some ⟨g,i,none⟩)) w:=fun _ _ _ _ _ f=>by
 cases a:P.info? e with
 | none=>simp [a] at d
 | some q=>
  have c:q.size=1:=by simpa [a] using d
  have p:(Addr.add ⟨g,0,none⟩ i)=⟨g,i,none⟩:=by rw [add_lit,acC]
  simp [execOp,f.ev h,f.ev j,Instr.indexAt,run_underlying o,asIntOf,Instr.sureAddr,sizeOf,typeInfo,a,c,p];omega
variable {a:AV}
theorem ON {c:Cx} {s:Sh} {d:List (den s)} {o:Nat} (h:Pds c (d.flatMap (cellsOf s)) vs) (g:s.size=1) (j:o<d.length) (p:cellsOf s (d.getD o (au s))=[a]):∃ u,vs[o]? = some u/\Pd c a u:=by
 have f:=(h.drop (o*s.size)).take s.size;rw [nH (oe j),p,g,ai2] at f;generalize v:List.take 1 (List.drop o vs)=q at f;cases f with
 | @cons _ u _ A B C=>
  have:=congrArg (·[0]?) v;grind
def pW (hT:bh P G.shp T) (W:Rep G ρ H w) {v:Value} (h:Rd (cx G ρ w) ρ a v) (S:ev F x=some v) (c:qV T H t a=some r) (J:∀ p ∈ r.ob,p):∃ u,aF P n F w (.load t x) ty u w/\Rt (cx G ρ w) ρ r.v u/\∀ p ∈ r.fc,p:=by
 unfold qV at c;split at c
 ·rename_i id o;split at c
  ·rename_i ta s m xs X;obtain ⟨r0,Y,g,vs,rfl,Z,K,b,U⟩:=W.at_ (bM X aa);obtain ⟨g',C,rfl⟩:=h;rw [Y] at C; cases C;have L:vs.length=m:=by rw [<- K.length,bU,b,U,ai2]
   have V:CellsAt w ⟨g,0,none⟩ vs:=cw (cells:=vs) (sp:=[]) (by rw [ad8]; exact Z);split at c
   ·rename_i m' e sz z q;split at c
    ·rename_i j;cases c;simp only [Bool.and_eq_true] at j;have l:=aaF j.1.1.1;have y:=aaF j.1.1.2;have O:=aaF j.1.2;subst l; subst y;obtain ⟨⟨N,_⟩,f⟩:=hT _ _ q;refine ⟨.agg vs.toArray,R.WH S f rfl (by rw [N,L]; exact congrArg some O) V,⟨vs,rfl,?_⟩,aa⟩;rw [FX aE,ajy];exact gH K
    cases c
   ·rename_i ti _ q;split at c
    ·cases c
    ·cases c
    ·cases c
    ·rename_i a' hs1 A n1 n2 n3;simp only [pr,Option.some.injEq] at c;subst c;have ho:=J _ (aaZ _);obtain ⟨u,hu,D⟩:=ON K U aE A;obtain ⟨_,f⟩:=hT _ _ q;have:∃ d,P.underlying t=some d/\kx d=false:=by
      cases B:ti.k <;> rw [B] at f;case i=>exact ⟨_,f,rfl⟩
      case bool=>exact ⟨_,f,rfl⟩
      case str=>exact ⟨_,f,rfl⟩
      case sl=>exact ⟨_,f.1,rfl⟩
      case st=>exact absurd B (n1 _)
      case ar=>exact absurd B (n2 _ _)
      case mp=>exact ⟨_,f.1,rfl⟩
      case ifc=>exact ⟨_,f,rfl⟩
      case ms=>exact ⟨_,f.1,rfl⟩
      case mg=>exact ⟨_,f.1,rfl⟩
      case ptr=>obtain ⟨e,f⟩:=f; exact ⟨_,f,rfl⟩
      all_goals exact f
     obtain ⟨d,hd,Q⟩:=this;have I:=V o u hu;rw [add_lit,acC] at I;exact ⟨u,R.Wo S hd Q I,kU D,D.oQ⟩
    cases c
   cases c
  cases c
 cases c
def aax {c:Cx} (h:TabsOK c) {e:TabE} (d:e ∈ SJ):Pd c (.fz e.s e.xs) (.slice (some ⟨e.g,0,none⟩) e.xs.length e.xs.length):=by
 obtain ⟨j,o,p,q,cells,t,fr,v,A⟩:=h.2 e d;refine .fz (Nat.le_refl _) p q A (.inr ⟨_,rfl,⟨j,.inl o⟩,?_⟩);exact cw (cells:=cells) (sp:=[]) (t:=t) (f:=fr) (by rw [ad8]; exact v)
theorem qg {g:Nat}:∀ {l:List TabE} {e:TabE},qP g l=some e->e ∈ l/\e.g=g
 | a :: l,e,h=>by
  unfold qP at h;cases c:Nat.beq g a.g
  ·rw [c,cond_false] at h;have:=qg h;grind
  simp_all
variable {i:Int}
def xt (hT:bh P G.shp T) (I:Rep G ρ H w) (J:ev F y=some (.int k i)) (c:sA T t x i=some r) (f:∀ p ∈ r.ob,p):∃ u,aF P n F w (.indexAddr t x y) ty u w/\Rt (cx G ρ w) ρ r.v u/\∀ p ∈ r.fc,p:=by
 unfold sA at c;split at c
 ·rename_i g;split at c
  ·rename_i e m W sz z K q;split at c
   ·rename_i s B;split at c
    ·rename_i d;simp only [pr,Option.some.injEq] at c;subst c;simp only [Bool.and_eq_true,decide_eq_true_eq] at d;have L:=d.1;have X:=aaF d.2;have N:=f _ (acy); have Y:=f _ (acs _ (aaZ _));obtain ⟨j,rfl⟩:=aa5 N;obtain ⟨Q,C⟩:=qg K;have S:j<e.xs.length:=by omega
     obtain ⟨A,Z,U,_,h,a,D⟩:=Rc (ρ:=ρ) (aax I.tb Q) (oe S);have o:=xh hT B;cases U;have V:Addr.add ⟨e.g,0,none⟩ (j*e.s.size)=⟨g,j,none⟩:=by rw [C,<- L,o.1,add_lit,acC,ai2]
     rw [V] at h;refine ⟨_,R.iC (g:=g) (i:=j) (by rfl) J (hT _ _ q).2 o.2.1 aE,?_,D.oQ⟩;rw [afM];exact h
    cases c
   cases c
  cases c
 cases c
def BY (hT:bh P G.shp T) (h:zP T e=true):(P.info? e).map (·.size)=some 1/\((P.info? e).bind (·.zero)).map Value.cells=some [Value.pointer none].toArray:=by
 unfold zP at h;split at h
 ·rename_i f;obtain ⟨⟨g,j,o,d⟩,_⟩:=hT _ _ f;refine ⟨g,o.trans (congrArg (fun l:List Value=>some l.toArray) ?_)⟩;cases j with
  | nil=>simp [CR] at d
  | cons v r=>
   cases r with
   | cons _ _=>simp [CR] at d
   | nil=>
    simp only [CR,Bool.and_true] at d;have h:=Wj (c:=⟨fun _=>none,0,fun _=>False,default⟩) (ρ:=[]) d;rw [h]
 cases h
def yv (hT:bh P G.shp T) {v:Value} (h:Rd (cx G ρ w) ρ a v) (J:ev F x=some v) (K:ev F y=some (.int k i)) (c:iC T H t a i=some r) (d:∀ p ∈ r.ob,p):∃ u,aF P n F w (.indexAddr t x y) ty u w/\Rt (cx G ρ w) ρ r.v u/\∀ p ∈ r.fc,p:=by
 unfold iC at c;split at c
 ·rename_i id m e sz z f;split at c
  ·rename_i Y s Z b l O D;split at c
   ·rename_i o;simp only [pr,Option.some.injEq] at c;subst c;simp only [Bool.and_eq_true] at o;have e2:=aaF o.1;have I:=d _ (acy); have S:=d _ (acs _ (aaZ _));obtain ⟨j,rfl⟩:=aa5 I;obtain ⟨g,U,rfl⟩:=h;exact ⟨_,R.iC J K (hT _ _ f).2 (xh hT D).2.1 aE,⟨g,U,by rw [afM]⟩,aa⟩
   cases c
  cases c
 ·rename_i cs e sz z f;split at c
  ·rename_i q V L;simp only [pr,Option.some.injEq] at c;subst c;have I:=d _ (acy); have S:=d _ (acs _ (aaZ _));obtain ⟨j,rfl⟩:=aa5 I;rw [afM] at L;obtain ⟨us,B,A,rfl,c,W,X⟩:=h;have N:=B.length;obtain ⟨u,Q,C⟩:=dQ B j q L;refine ⟨_,R.jR (s:=1) J K (hT _ _ f).2.1 (BY hT V).1 rfl aE,⟨[u],.cons C .nil,A.add (j*1),rfl,by rw [gb]; exact W,?_⟩,aa⟩;have:=(X.drop j).take 1;rw [afP (aaw.1 Q).1,(aaw.1 Q).2] at this;rw [ai2];simpa using this
  cases c
 cases c
def yd (hT:bh P G.shp T) {c:Cx} {v:Value} (h:di c ρ (.agg cs) v) (L:ev F x=some v) (N:ev F y=some (.int k i)) (f:lq T t cs i=some r) (q:∀ p ∈ r.ob,p):∃ u,aF P n F w (.index t x y) ty u w/\Rt c ρ r.v u/\∀ p ∈ r.fc,p:=by
 unfold lq at f;split at f
 ·rename_i m e sz z B;split at f
  ·rename_i s Q;split at f
   ·rename_i S C;split at f
    ·rename_i a g o;simp only [pr,Option.some.injEq] at f;subst f;have g:=aaF g;have U:=q _ (acy); have X:=q _ (acs _ (aaZ _));obtain ⟨j,rfl⟩:=aa5 U;obtain ⟨vs,rfl,D⟩:=h;obtain ⟨I,J,d,V,K⟩:=xh hT Q;obtain ⟨u,W,A⟩:=ON (ll C D) I (show j<S.length by omega) o;exact ⟨u,R.lq L N (hT _ _ B).2 V K J aE W,kU A,A.oQ⟩
    cases f
   cases f
  cases f
 cases f
theorem R.buildSlice {parts:List (Nat × Operand)} {pv:List (Nat × Value)} {vss:List (List Value)} {m s:Nat} {e:TypeId} {z:List Value} (v:P.underlying t=some (.slice e)) (A:(P.info? e).map (·.size)=some s)
  (D:((P.info? e).bind (·.zero)).map Value.cells=some z.toArray) (I:NH F parts=some pv) (J:pv.map (fun p=>(p.1,p.2.cells.toList))=(List.range' 0 vss.length).zip vss) (K:∀ vs ∈ vss,vs.length=s) (L:vss.length=m)
  (N:m*s<=16777216):aF P n F w (.buildSlice t m parts.toArray) ty (.slice (some ⟨w.heap.size,0,none⟩) m m) (w.alloc (.cells vss.flatten.toArray e)):=fun a _ _ _ _ Q=>by
 subst L;cases f:P.info? e with
 | none=>simp [f] at A
 | some i=>
  have B:i.size=s:=by simpa [f] using A
  cases g:i.zero with
  | none=>simp [f,g] at D
  | some d=>
   have c:(parts.toArray.map fun p=>(p.1,a.eval p.2))=pv.toArray:=by simp [<- yG Q I]
   have C:∀ h:List Value,h.length=vss.length*s->Instr.fill (fun i=>some (i*s,s)) h.toArray pv=some vss.flatten.toArray:=fun h o=>by
    simpa using sw s vss 0 [] h K aa o pv J
   by_cases q:vss.length*s=0
   ·have:=C [] (by simp [q]);simp [execOp,c,Instr.buildSlice,run_underlying v,sizeOf,typeInfo,f,B,q,Array.range_zero',this,newRow]
   have:=C ((List.range (vss.length*s)).map fun j=>d.cells[j % d.cells.size]!) aa;have S:(Array.range (vss.length*s)).map (fun j=>d.cells[j % d.cells.size]!)=((List.range (vss.length*s)).map fun j=>d.cells[j % d.cells.size]!).toArray:=by rw [<- List.toArray_range,List.map_toArray]
   simp only [execOp,Instr.buildSlice,Sem.run_bind,run_underlying v,sizeOf,typeInfo,run_program,f,B,Result.andThen_ok,Sem.run_ite,if_neg (show ¬ vss.length*s > 2 ^ 24 by omega),Sem.run_pure,q,if_false,zeroValue,g,S];rw [show (Array.map (fun x=>(x.1,a.eval x.2)) parts.toArray).toList=pv by rw [c]];simp [this,newRow]
theorem Cr (op:BinOp) (t:TypeId) (x:Operand):eqGuard op t x (.const .nilIface) .nilIface .nilIface=pure ():=by cases op <;> cases x <;> rfl
theorem Ag (op:BinOp) (t:TypeId) (x y:Operand) (a:TypeId) (b:Value):eqGuard op t x y (.iface a b) .nilIface=pure ():=by cases op <;> rfl
theorem eval_nil (a:Act):a.eval (.const .nilIface) = .nilIface:=rfl
variable {X:Option TV}
def ab2 (hT:bh P G.shp T) {c:Cx} {fr:AFr} (B:FrR c ρ fr F) {op:BinOp} (C:dh fr x=X) (h:erA T op t X y=some r) (D:c=cx G ρ w):Yields P n F w (.binOp op t x y t') ty fun v A=>Kp [] w A /\ Rt (cx G ρ A) ρ r.v v/\∀ p ∈ r.fc,p:=by
 unfold erA at h;split at h
 ·split at h
  ·rename_i sz z b o;obtain ⟨va,f,I,J,g⟩:=aq B C;have j:P.underlying t=some (.interface (P.methodsAt t)):=(hT _ _ o).2;obtain ⟨_,g⟩:=g;split at h
   ·cases h;rcases g with ⟨rfl,rfl⟩ | ⟨rfl,q,s,rfl⟩
    ·exact y0 (v:=.bool true) (fun _ _ _ _ _ d=>by simp [execOp,d.ev f,eval_nil,Cr,run_eql_nil_nil w t j]) (Pd.bool (e:=.atom true)) aa
    exact y0 (v:=.bool false) (fun _ _ _ _ _ d=>by simp [execOp,d.ev f,eval_nil,Ag,run_eql_held_nil w t q s j]) (Pd.bool (e:=.atom false)) aa
   ·cases h;rcases g with ⟨rfl,rfl⟩ | ⟨rfl,q,s,rfl⟩
    ·exact y0 (v:=.bool false) (fun _ _ _ _ _ d=>by simp [execOp,d.ev f,eval_nil,Cr,run_neq_nil_nil w t j]) (Pd.bool (e:=.not (.atom true))) aa
    exact y0 (v:=.bool true) (fun _ _ _ _ _ d=>by simp [execOp,d.ev f,eval_nil,Ag,run_neq_held_nil w t q s j]) (Pd.bool (e:=.not (.atom false))) aa
   cases h
  cases h
 cases h
def PJ (n:Int):IntKind.u8.wrap n=((u8w n).toNat:Int):=by
 show n % 256=_;unfold u8w;rw [UInt8.toNat_ofNat'];omega
def Ia (hT:bh P G.shp T) (A:Rep G ρ H w) {a:TI} (f:a_ T t=some a) (c:a_ T t' = some b) (h:Lq O H a.k b.k u=some r) (d:∀ p ∈ r.ob,p) (g:Rd (cx G ρ w) ρ u va) (j:ev F x=some va) :
  Yields P n F w (.convert t t' x) ty fun v o=>Kp [] w o /\ Rt (cx G ρ o) ρ r.v v/\∀ p ∈ r.fc,p:=by
 unfold Lq at h;split at h
 ·rename_i D I m _ B C;have q:=(hT _ _ f).2;have s:=(hT _ _ c).2;rw [B] at q; rw [C] at s;cases h;cases g with | int J=>
  have:=R.conv (P:=P) (n:=n) (w:=w) (ty:=ty) j q s
  rw [PJ] at this;exact y0 this Pd.u8 aa
 exact PK hT A f c h d g j
theorem FZ {k:Str}:∀ {l:List MapEntry} {i:Nat},(∀ e ∈ l,∃ s,e.key = .string s) ->
  (∃ j v,Instr.findNow .string k.val l i=some (some (j,v))/\xy k l=some v)\/(Instr.findNow .string k.val l i=some none/\xy k l=none)
 | [],i,_=>.inr ⟨rfl,rfl⟩
 | e :: l,i,h=>by
  obtain ⟨s,d⟩:=h e aa;have p:=fun x q=>h x (acs _ q);have f:((⟨k.b.toArray⟩:ByteArray) == s)=decide ((⟨s.data.toList⟩:Str)=k):=by
   rw [aht,MapKept.bytes_beq,decide_eq_true_eq];constructor
   ·rintro rfl; simp
   intro e; rw [<- e]
  by_cases c:(⟨s.data.toList⟩:Str)=k
  ·exact .inl ⟨i,e.val,by simp only [Instr.findNow,d,Instr.sameNow,Str.val,f,c,decide_true],by simp [xy,RF,d,c]⟩
  rcases FZ (k:=k) (i:=i+1) p with ⟨j,v,g,o⟩ | ⟨g,o⟩
  ·exact .inl ⟨j,v,by simp only [Instr.findNow,d,Instr.sameNow,Str.val,f,c]; exact g,by simp [xy,RF,d,c,o]⟩
  exact .inr ⟨by simp only [Instr.findNow,d,Instr.sameNow,Str.val,f,c]; exact g,by simp [xy,RF,d,c,o]⟩
def R.Tb {g c:Nat} {k:Str} {a:Array MapEntry} {z:Value} {A f:TypeId} (D:ev F x=some (.map (some g))) (I:ev F y=some k.val) (J:P.underlying t=some (.map A f)) (h:P.underlying A=some .string) (o:(P.info? f).bind (·.zero)=some z) (B:w.heap[g]? = some (.map a c)) (K:∀ e ∈ a.toList,∃ s,e.key = .string s) :
  aF P n F w (.lookup t x y false) ty ((xy k a.toList).getD z) w:=fun N _ _ _ _ C=>by
 have d:MapKept.IsKey .string k.val:=trivial;have L:(zeroValue f).run P w = .ok z w:=by
  cases p:P.info? f with
  | none=>simp [p] at o
  | some i=>simp [p] at o; simp [zeroValue,typeInfo,p,o]
 have e:(Instr.lookup t (.map (some g)) k.val false).run P w = .ok ((xy k a.toList).getD z) w:=by
  unfold Instr.lookup;simp only [Sem.run_bind,run_underlying J];rcases FZ (k:=k) (i:=0) K with ⟨j,Q,q,v⟩ | ⟨q,v⟩
  ·simp only [Sem.run_bind,MapKept.run_getObj_map B,Result.andThen,Sem.run_pure,MapKept.run_checkKey h d,MapKept.run_findKey h q];simp [v]
  simp only [Sem.run_bind,MapKept.run_getObj_map B,Result.andThen,Sem.run_pure,MapKept.run_checkKey h d,MapKept.run_findKey h q];simp [v,L]
 simp [execOp,C.ev D,C.ev I,e]
def Ih (hT:bh P G.shp T) {c:Cx} {fr:AFr} (C:FrR c ρ fr F) {ok:Bool} {Y:Option TV} (I:dh fr x=X) (J:dh fr y=Y) (h:Po T t X Y ok=some r) (K:c=cx G ρ w):Yields P n F w (.lookup t x y ok) ty fun v D=>Kp [] w D /\ Rt (cx G ρ D) ρ r.v v/\∀ p ∈ r.fc,p:=by
 subst K;unfold Po at h;split at h
 ·rename_i e i sz z f s o;split at h
  ·cases h;obtain ⟨va,L,k,l,N⟩:=aq C I;obtain ⟨vb,Q,S⟩:=aq C J;cases S with | str u=>
   obtain ⟨_,g,a,H,rfl,_,U,V,W⟩:=N;obtain ⟨Z,q,b⟩:=(hT _ _ o).2;have d:=R.Tb (P:=P) (n:=n) (F:=F) (ty:=ty) L Q Z q b U V;obtain ⟨A,B⟩:=W s;rw [A] at d;cases j:f s with
   | none=>rw [j] at d; exact y0 d (by rw [show ((none:Option Int).getD 0)=0 from rfl]; exact Pd.int ⟨aE,aE⟩) aa
   | some m=>rw [j] at d; exact y0 d (Pd.int (B m j)) aa
  cases h
 cases h
theorem zk {c:Cx}:∀ {l:List (Nat × TV1)} {k:Nat} {cs:List (Nat × Nat)} {pv:List (Nat × Value)},sP k l=some cs->All2 (fun p q=>p.1=q.1/\di c ρ p.2 q.2) l pv ->
  ∃ f:List Value,All2 (dY ρ) cs f/\pv.map (fun p=>(p.1,p.2.cells.toList))=(List.range' k f.length).zip (f.map fun u=>[u])
 | [],k,cs,_,h,j=>by cases h; cases j; exact ⟨[],.nil,rfl⟩
 | (i,t) :: r,k,cs,_,h,j=>by
  cases j with
  | @cons _ q _ J s v=>
  obtain ⟨K,u⟩:=q;obtain ⟨e,A⟩:=s;simp only at e; subst e;cases t with
  | agg l=>simp [sP] at h
  | c a=>
  cases a;case ptr id o=>
   simp only [sP] at h;split at h
   ·rename_i l d B;cases h;obtain ⟨f,C,D⟩:=zk B v;have d:=aaF d;subst d;obtain ⟨g,I,rfl⟩:=A;refine ⟨_ :: f,.cons ⟨g,I,rfl⟩ C,?_⟩;simp only [afV,D];rfl
   cases h
  all_goals simp [sP] at h
theorem WS:∀ c:List Value,(c.map fun u=>[u]).flatten=c
 | []=>rfl
 | a :: r=>by rw [afV,List.flatten_cons,WS r]; rfl
def Pn (hT:bh P G.shp T) (C:Rep G ρ H w) {e:Nat} {cs:List (Nat × Nat)} {parts:Array (Nat × Operand)} {pv:List (Nat × Value)} (d:a_ T t=some ⟨.sl e none,sz,z⟩) (o:sP 0 l=some cs) (J:NH F parts.toList=some pv) (K:All2 (fun p q=>p.1=q.1/\di (cx G ρ w) ρ p.2 q.2) l pv) (S:cs.length=m) (A:zP T e=true) (B:m<=16777216) :
  Yields P n F w (.buildSlice t m parts) ty fun v D=>Kp [] w D /\ Rt (cx G ρ D) ρ (one (.xx .pl cs)) v/\∀ p ∈ ([]:List Prop),p:=by
 obtain ⟨g,I,L⟩:=zk o K;have U:=I.length;have d:=(hT _ _ d).2;have j:=BY hT A;have c:=R.buildSlice (P:=P) (n:=n) (F:=F) (w:=w) (ty:=ty) (m:=m) (s:=1) (z:=[.pointer none]) (vss:=g.map fun u=>[u]) d.1 j.1 j.2 J (by rw [List.length_map]; exact L) aa (by rw [List.length_map]; omega) aE;rw [show parts.toList.toArray=parts by simp,WS g] at c;have h:g.length=m:=by omega
 subst h;refine .inl ⟨_,_,c,Kp.alloc w _,⟨g,I,⟨w.heap.size,0,none⟩,rfl,B,⟨aa,fun ⟨i,r,N,Q⟩=>by have:=(C.bnd i r _ N Q).2.1; simp at this,fun j=>by have:=C.z _ j; simp at this⟩,?_⟩,aa⟩;exact cw (cells:=g) (sp:=[]) (t:=e) (f:=(0,0)) (by rw [ad8]; exact af6 w _)
def Uv (hT:bh P G.shp T) (hO:aA P G.shp O) (X:Rep G ρ H w) {fr:AFr} (I:FrR (cx G ρ w) ρ fr F) (h:pvB T O H fr op=some r) (N:∀ p ∈ r.ob,p) :
  Yields P n F w op ty fun v w'=>Kp [] w w' /\ Rt (cx G ρ w') ρ r.v v/\∀ p ∈ r.fc,p:=by
 cases op <;> simp only [pvB] at h;case move x=>
  split at h
  ·rename_i tv J;cases h;obtain ⟨v,B,q⟩:=aq I J;exact y0 (R.move B) q aa
  cases h
 case assign x=>
  split at h
  ·rename_i tv J;cases h;obtain ⟨v,B,q⟩:=aq I J;exact y0 (R.assign B) q aa
  cases h
 case unOp u t x=>
  cases u <;> simp only at h <;> try cases h
  split at h
  ·rename_i e J;cases h;obtain ⟨v,B,q⟩:=aq I J;cases q with | bool=>
   have e1:(BE.neg e).val = !e.val:=by cases e <;> simp [BE.neg,BE.val]
   have d:=Pd.bool (c:=cx G ρ w) (e:=e.neg);rw [e1] at d;exact y0 (R.not B) d aa
  cases h
 case binOp op t x y t'=>
  split at h
  ·rename_i a b J Q;split at h
   ·rename_i hb;obtain ⟨va,B,q⟩:=aq I J;obtain ⟨vb,d,C⟩:=aq I Q;obtain ⟨v,L,S,U⟩:=KT (P:=P) (n:=n) (w:=w) (ty:=ty) (t':=t') hT hb h N q C B d;exact y0 L S (rH U)
   exact ab2 (P:=P) (n:=n) (w:=w) (ty:=ty) hT I J h rfl
  ·rename_i a b J Q;obtain ⟨va,B,vs,rfl,q⟩:=aq I J;obtain ⟨vb,d,us,rfl,C⟩:=aq I Q;obtain ⟨v,L,S,U⟩:=VP (P:=P) (n:=n) (w:=w) (ty:=ty) (t':=t') hT h q C B d;exact y0 L S (rH U)
  cases h
 case extract x i=>
  split at h
  ·rename_i l J;split at h
   ·rename_i a V;cases h;obtain ⟨v,B,vs,rfl,q⟩:=aq I J;obtain ⟨u,d,C⟩:=dQ q i a V;exact y0 (R.extract B (by simpa using d)) C aa
   cases h
  cases h
 case nilCheck x=>
  split at h
  ·rename_i a J;obtain ⟨v,B,q⟩:=aq I J;cases a <;> simp only [pr] at h <;> cases h
   ·obtain ⟨g,d,rfl⟩:=q;exact y0 (R.px B) ⟨g,d,rfl⟩ aa
   ·obtain ⟨g,cap,len,z,d,C,rfl⟩:=q;exact y0 (R.px B) ⟨g,cap,len,z,d,C,rfl⟩ aa
   ·obtain ⟨A,cells,d,C,L,rfl⟩:=q;exact y0 (R.px B) ⟨A,cells,d,C,L,rfl⟩ aa
   obtain ⟨bs,us,d,C,rfl⟩:=q;exact y0 (R.HT B) ⟨bs,us,d,C,rfl⟩ aa
  cases h
 case convert s t x=>
  split at h
  ·rename_i a b u B q J;obtain ⟨v,d,C⟩:=aq I J;exact Ia hT X B q h N C d
  cases h
 case makeFunc g b c=>
  cases g <;> simp only at h <;> try cases h
  rename_i f;split at h
  ·rename_i cs hb hc;split at h
   ·rename_i cp hcp;cases h;obtain ⟨vs,B,q⟩:=lT I hc;have d:=oz hcp q;obtain rfl:b = #[]:=by
     apply agd;simpa using hb
    refine y0 (R.makeFunc (cv:=vs.toArray) fun a ha=>?_) ⟨[],vs,.nil,d,rfl⟩ aa;apply agd;rw [Array.toList_map,nv ha B]
   cases h
  cases h
 case fieldAddr t x i=>
  split at h
  ·rename_i fs sz z a B J;split at h
   ·rename_i o k V;obtain ⟨v,q,d⟩:=aq I J;obtain ⟨u,C,L,_,U⟩:=Je (P:=P) (n:=n) (w:=w) (ty:=ty) hT B V d q h;exact y0 C L (rH U)
   cases h
  cases h
 case load t x=>
  split at h
  ·rename_i a J;obtain ⟨v,q,d⟩:=aq I J;split at h
   ·rename_i r' hla;cases h;obtain ⟨u,C,L,S⟩:=pW (P:=P) (n:=n) (ty:=ty) hT X d q hla N;exact y0 C L S
   obtain ⟨u,C,L,_,U⟩:=Ao (P:=P) (n:=n) (ty:=ty) hT X d q h;exact y0 C L (rH U)
  cases h
 case indexAddr t x y=>
  split at h
  ·rename_i a b s J Q hs;split at h
   ·rename_i i V;obtain ⟨va,B,q⟩:=aq I J;obtain ⟨vb,d,C⟩:=aq I Q;obtain ⟨k,rfl⟩:=pK V C;obtain ⟨v,L,S,U⟩:=HQ (P:=P) (n:=n) (ty:=ty) hT X hs h N q B d;exact y0 L S U
   cases h
  ·rename_i a b J Q hs;split at h
   ·rename_i i V;obtain ⟨va,B,q⟩:=aq I J;obtain ⟨vb,d,C⟩:=aq I Q;obtain ⟨k,rfl⟩:=pK V C;obtain ⟨v,L,S,U⟩:=yv (P:=P) (n:=n) (ty:=ty) hT q B d h N;exact y0 L S U
   cases h
  ·rename_i b J Q hs;split at h
   ·rename_i i V;obtain ⟨vb,d,C⟩:=aq I Q;obtain ⟨k,rfl⟩:=pK V C;obtain ⟨v,L,S,U⟩:=xt (P:=P) (n:=n) (ty:=ty) hT X d h N;exact y0 L S U
   cases h
  cases h
 case index t x y=>
  split at h
  ·rename_i s b J Q;split at h
   ·rename_i i V;split at h
    ·rename_i sz z ht;cases h;obtain ⟨va,B,q⟩:=aq I J;obtain ⟨vb,d,C⟩:=aq I Q;obtain ⟨k,rfl⟩:=pK V C;cases q with | str hl=>
     have g0:=N _ (acy); have g1:=N _ (acs _ (aaZ _));obtain ⟨j,rfl⟩:=aa5 g0;exact y0 (R.aeC B d (hT _ _ ht).2 aE) Pd.u8 aa
    cases h
   cases h
  ·rename_i cs b J Q;split at h
   ·rename_i i V;obtain ⟨va,B,q⟩:=aq I J;obtain ⟨vb,d,C⟩:=aq I Q;obtain ⟨k,rfl⟩:=pK V C;obtain ⟨v,L,S,U⟩:=yd (P:=P) (n:=n) (w:=w) (ty:=ty) hT q B d h N;exact y0 L S U
   cases h
  cases h
 case build t parts=>
  split at h
  ·rename_i fs sz z l ht hl;split at h
   ·rename_i cs hb;cases h;obtain ⟨pv,B,q⟩:=jU I hl;obtain ⟨us,d,C⟩:=J_ (P:=P) (n:=n) (w:=w) (ty:=ty) hT ht B q hb;have e:parts.toList.toArray=parts:=by simp
    rw [e] at d;exact y0 d ⟨us,rfl,C⟩ aa
   cases h
  ·rename_i m e sz z l ht hl;split at h
   ·rename_i s cs hs hb;cases h;obtain ⟨pv,B,q⟩:=jU I hl;obtain ⟨us,d,C⟩:=tJ (P:=P) (n:=n) (w:=w) (ty:=ty) hT ht (xh hT hs).2.1 B q hb;have e:parts.toList.toArray=parts:=by simp
    rw [e] at d;exact y0 d ⟨us,rfl,C⟩ aa
   cases h
  cases h
 case slice t x lo V mx=>
  cases mx with
  | some m=>cases h
  | none=>
  simp only at h;split at h
  ·rename_i a J;obtain ⟨va,B,q⟩:=aq I J;have fin:∀ (l' h':Option Int),kP T t a l' h' = some r->(∀ i,l' = some i->∃ z,lo=some z/\ev F z=some (.int .i64 i))->(l' = none->lo=none)->(∀ i,h' = some i->∃ z,V=some z/\ev F z=some (.int .i64 i))->(h' = none->V=none)->Yields P n F w (.slice t x lo V none) ty fun v w'=>Kp [] w w' /\ Rt (cx G ρ w') ρ r.v v/\∀ p ∈ r.fc,p:=fun l' h' hs k1 k2 k3 Z=>by
    obtain ⟨v,L,S,U⟩:=JL (P:=P) (n:=n) (w:=w) (ty:=ty) hT hs N q B k1 k2 k3 Z;exact y0 L S (rH U)
   split at h
   ·cases h
   ·split at h
    ·rename_i z i hz;obtain ⟨vz,d,C⟩:=aq I hz;cases C with | int=>
     exact fin _ _ h (fun j hj=>by cases hj; exact ⟨_,rfl,d⟩) aa aa (fun _=>rfl)
    cases h
   ·split at h
    ·rename_i z i hz;obtain ⟨vz,d,C⟩:=aq I hz;cases C with | int=>
     exact fin _ _ h aa (fun _=>rfl) (fun j hj=>by cases hj; exact ⟨_,rfl,d⟩) aa
    cases h
   split at h
   ·rename_i z z' i j hz hz';obtain ⟨vz,d,C⟩:=aq I hz;obtain ⟨vz',L,S⟩:=aq I hz';cases C with | int=>
    cases S with | int=>
    exact fin _ _ h (fun j hj=>by cases hj; exact ⟨_,rfl,d⟩) aa (fun j hj=>by cases hj; exact ⟨_,rfl,L⟩) aa
   cases h
  cases h
 case call W=>
  split at h
  ·rename_i K;split at h
   ·rename_i x t D htys;split at h
    ·rename_i a J;split at h
     ·rename_i m hm;cases h;obtain ⟨va,B,q⟩:=aq I J;obtain ⟨d,C⟩:=Uk (P:=P) (n:=n) (ty:=ty) hT X hm q B;have e:W={ callee:=.builtin .len,args:=#[x],argTypes:=#[t] }:=by
       cases W; simp at K D htys; subst K;simp only [aiy,true_and];exact ⟨agd (by simpa using D),agd (by simpa using htys)⟩
      rw [e];exact y0 d (Pd.int C) aa
     cases h
    cases h
   cases h
  ·rename_i K;split at h
   ·rename_i x y D;split at h
    ·rename_i a b J Q;cases h;obtain ⟨va,B,q⟩:=aq I J;obtain ⟨vb,d,C⟩:=aq I Q;cases q with | int ia=>
     cases C with | int ib=>
     have e:W={ callee:=.builtin .min,args:=#[x,y],argTypes:=W.argTypes }:=by
      cases W; simp at K D; subst K;simp only [aiy,true_and,and_true];exact agd (by simpa using D)
     rw [e];exact y0 (R.min2 B d) (Pd.int (by unfold I64 at *; omega)) aa
    ·rename_i a b J Q;cases h;obtain ⟨va,B,q⟩:=aq I J;obtain ⟨vb,d,C⟩:=aq I Q;cases q with | u64 ia=>
     cases C with | u64 ib=>
     have e:W={ callee:=.builtin .min,args:=#[x,y],argTypes:=W.argTypes }:=by
      cases W; simp at K D; subst K;simp only [aiy,true_and,and_true];exact agd (by simpa using D)
     have e2:min (a:Int) (b:Int)=((min a b:Nat):Int):=by omega
     have e3:=R.min2 (P:=P) (n:=n) (w:=w) (ty:=ty) (asx:=W.argTypes) B d;rw [e2] at e3;rw [e];exact y0 e3 (Pd.u64 aE) aa
    cases h
   cases h
  ·rename_i K;split at h
   ·rename_i x y D;split at h
    ·rename_i a b J Q;cases h;obtain ⟨va,B,q⟩:=aq I J;obtain ⟨vb,d,C⟩:=aq I Q;cases q with | int ia=>
     cases C with | int ib=>
     have e:W={ callee:=.builtin .max,args:=#[x,y],argTypes:=W.argTypes }:=by
      cases W; simp at K D; subst K;simp only [aiy,true_and,and_true];exact agd (by simpa using D)
     rw [e];exact y0 (R.max2 B d) (Pd.int (by unfold I64 at *; omega)) aa
    cases h
   cases h
  ·rename_i x K;split at h
   ·rename_i f l hl;obtain ⟨x',xs,vs,bs,cap,B,q,d,C,L⟩:=ld I hl;obtain ⟨⟨fn,S,U,h8⟩,Y⟩:=uT hO X L h N;have e:W={ callee:=.value x',args:=xs.toArray,argTypes:=W.argTypes }:=by
     cases W; simp at B q; subst B; subst q; rfl
    rw [e];exact .inr ⟨_,_,E.Lh d C S U h8,Y⟩
   cases h
  cases h
 case lookup t x y ok=>
  split at h
  ·rename_i s id k hft J Q;split at h
   ·rename_i s' f hO2;split at h
    ·rename_i hss;subst hss;obtain ⟨hm,hk,hz,_⟩:=(hT _ _ hft).2;obtain ⟨z,zs,hz1,hz2,hz3⟩:=hz _ rfl;obtain ⟨va,B,q⟩:=aq I J;obtain ⟨vb,d,C⟩:=aq I Q;cases C with | int=>
     obtain ⟨g,hg,rfl⟩:=q;obtain ⟨r',hr',hor⟩:=X.at_ (bM hO2 aa);rw [hg] at hr'; cases hr';obtain ⟨g',e,a,c,k1,k2,k3⟩:=hor;cases e;have Y:=R.q_ (P:=P) (n:=n) (ty:=ty) ok B d hm hk hz1 k1 k2;have hv:V1 (cx G ρ w) s' ((f k).getD (au s')) ((getM k a.toList).getD z):=by
      have Z:=k3 k;cases hgm:getM k a.toList <;> cases hfk:f k <;> rw [hgm,hfk] at Z
      ·exact V1.zero hz2 hz3
      ·exact Z.elim
      ·exact Z.elim
      exact Z
     have hs:(getM k a.toList).isSome=(f k).isSome:=by
      have Z:=k3 k;cases hgm:getM k a.toList <;> cases hfk:f k <;> rw [hgm,hfk] at Z
      ·rfl
      ·exact Z.elim
      ·exact Z.elim
      rfl
     cases ok with
     | false=>cases h; exact y0 Y hv.rt aa
     | true=>
      cases h;refine y0 Y ⟨_,rfl,.cons hv.rt (.cons ?_ .nil)⟩ aa;rw [hs];exact Pd.bool (e:=.atom (f k).isSome)
    cases h
   cases h
  exact Ih (P:=P) (n:=n) (w:=w) (ty:=ty) hT I rfl rfl h rfl
 case buildSlice t m parts=>
  split at h
  ·rename_i e sz z l hft hl;split at h
   ·rename_i cs hcs;split at h
    ·rename_i hck;simp only [pr,Option.some.injEq] at h;subst h;simp only [Bool.and_eq_true] at hck;obtain ⟨pv,B,q⟩:=jU I hl;exact Pn hT X hft hcs B q (aaF hck.1.1) hck.1.2 (afL hck.2)
    cases h
   cases h
  cases h
 all_goals cases h
end
section
variable {P:Program} {n:Nat} {fr:Fr} {w:World} {x y:Operand} {t t' ty e:TypeId}
variable {cs:List Value}
def R.nI {g o b k c l z:Nat} {a:Addr} {cur:List Value} {m:TypeId} (r:ev fr x=some (.slice (some ⟨g,o,none⟩) b k)) (s:ev fr y=some (.slice (some a) c l)) (u:P.underlying t=some (.slice e)) (p:(P.info? e).map (·.size)=some z)
  (A:w.heap[g]? = some (.cells cur.toArray m (0,0))) (B:cs.length=Nat.min c b*z) (d:CellsAt w a cs) (f:o+cs.length<=cur.length) (C:∀ v ∈ cs,v.oneCell' = true) :
  aF P n fr w (.call { callee:=.builtin .copy,args:=#[x,y],argTypes:=#[t,t'] }) ty (goInt (Nat.min c b)) (w.setRow g (cur.take o++cs++cur.drop (o+cs.length)).toArray):=fun _ _ _ _ _ q=>by
 have D:=aih (P:=P) w a cs d;have h:=run_storeCells_at (P:=P) g o m cs 0 cur.toArray w A (by simpa using f) C;cases j:P.info? e with
 | none=>simp [j] at p
 | some i=>
  have F:i.size=z:=by simpa [j] using p
  have G:(Builtin.copy_ #[t,t'] ty #[.slice (some ⟨g,o,none⟩) b k,.slice (some a) c l]).run P w = .ok (goInt (Nat.min c b)) (w.setRow g (cur.take o++cs++cur.drop (o+cs.length)).toArray):=by
   simp [Builtin.copy_,run_underlying u,Builtin.lenOf,Builtin.firstCells,sizeOf,typeInfo,j,F,<- B,D,h]
  simp [execOp,resolve,invoke,builtin,q.ev r,q.ev s,G]
variable {kh km:IntKind} {k i j m:Nat} {z'' z':Operand} {a:Option Addr}
def R.slice3 {c s:Nat} {f:IntKind} {z:Operand} (u:ev fr x=some (.slice a m c)) (v:ev fr z=some (.int f (i:Int))) (g:ev fr z' = some (.int kh (j:Int))) (d:ev fr z'' = some (.int km (k:Int))) (h:P.underlying t=some (.slice e)) (r:(P.info? e).map (·.size)=some s)
  (A:i<=j) (B:j<=k) (D:k<=c):aF P n fr w (.slice t x (some z) (some z') (some z'')) ty (.slice (if k=i then a else a.map (·.add (i*s))) (j - i) (k - i)) w:=fun _ _ _ _ _ b=>by
 cases l:P.info? e with
 | none=>simp [l] at r
 | some q=>
  have o:q.size=s:=by simpa [l] using r
  have p:P.elem t=e:=by simp [Program.elem,h]
  have C:=aiG (P:=P) w t (.slice a m c) (some (.int f (i:Int))) (some (.int kh (j:Int))) (some (.int km (k:Int))) (by rw [p]; exact h);have:=run_slice_lhm (P:=P) w t a m c (by rw [p]; exact h) f kh km (i:Int) (j:Int) (k:Int) aE aE aE aE;simp [execOp,b.ev u,b.ev v,b.ev g,b.ev d,C,this,p,sizeOf,typeInfo,l,o,sliced]
def R.TT {c s:Nat} (o:ev fr x=some (.slice a m c)) (f:ev fr z' = some (.int kh (j:Int))) (d:ev fr z'' = some (.int km (k:Int))) (g:P.underlying t=some (.slice e)) (p:(P.info? e).map (·.size)=some s)
  (r:j<=k) (v:k<=c):aF P n fr w (.slice t x none (some z') (some z'')) ty (.slice (if k=0 then a else a.map (·.add (0*s))) (j - 0) (k - 0)) w:=fun _ _ _ _ _ b=>by
 cases l:P.info? e with
 | none=>simp [l] at p
 | some q=>
  have h:P.elem t=e:=by simp [Program.elem,g]
  have u:=aiG (P:=P) w t (.slice a m c) none (some (.int kh (j:Int))) (some (.int km (k:Int))) (by rw [h]; exact g);have:=run_slice_hm (P:=P) w t a m c (by rw [h]; exact g) kh km (j:Int) (k:Int) aE aE aE;simp [execOp,b.ev o,b.ev f,b.ev d,u,this,h,sizeOf,typeInfo,l,sliced]
def wK (z:Int) (h:0<=z):IntKind.u32.wrap z=((z.toNat % 4294967296:Nat):Int):=by
 simp only [IntKind.wrap,IntKind.bits,IntKind.signed];simp;omega
def wrap_u32 (h:m<4294967296):IntKind.u32.wrap (m:Int)=(m:Int):=by
 rw [wK _ aE,afM,Nat.mod_eq_of_lt h]
variable {b a:Nat}
theorem R.agM {c:IntKind} (f:ev fr x=some (.int .u32 (a:Int))) (g:ev fr y=some (.int c (b:Int))) (l:b<=32):aF P n fr w (.binOp .shl t x y t') ty (.int .u32 (((a*2 ^ b) % 4294967296:Nat):Int)) w:=fun _ _ _ _ _ d=>by
 have e:IntKind.u32.wrap ((a:Int)*2 ^ b)=(((a*2 ^ b) % 4294967296:Nat):Int):=by
  rw [show (a:Int)*2 ^ b=((a*2 ^ b:Nat):Int) by simp,wK _ (Int.natCast_nonneg _),afM]
 have h:Op.shift .shl .u32 (a:Int) c (b:Int)=pure (.int .u32 (((a*2 ^ b) % 4294967296:Nat):Int)):=by
  simp_all
 simp only [execOp,d.ev f,d.ev g,binOp_shl,h];rfl
def R.orW (l:ev fr x=some (.int .u32 (a:Int))) (o:ev fr y=some (.int .u32 (b:Int))) (d:a<4294967296) (f:b<4294967296):aF P n fr w (.binOp .or t x y t') ty (.int .u32 ((a ||| b:Nat):Int)) w:=fun _ _ _ _ _ g=>by
 have h:∀ c:Nat,(BitVec.ofInt 32 (c:Int))=BitVec.ofNat 32 c:=fun c=>by rw [BitVec.ofInt_natCast]
 have e:bits .or .u32 (a:Int) (b:Int)=((a ||| b:Nat):Int):=by
  show IntKind.u32.wrap ((BitVec.ofInt 32 (a:Int) ||| BitVec.ofInt 32 (b:Int)).toNat:Int)=_;rw [h,h,BitVec.toNat_or,BitVec.toNat_ofNat,BitVec.toNat_ofNat,Nat.mod_eq_of_lt (by simpa using d),Nat.mod_eq_of_lt (by simpa using f)];exact wrap_u32 (ahG (n:=32) d f)
 simp [execOp,g.ev l,g.ev o,eqGuard_or,binOp_or,intBits_or,e]
def R.abj {v:Value} {F:Array Go.Field} {f:Go.Field} {d:TypeDesc} (c:ev fr x=some (.agg cs.toArray)) (g:P.underlying t=some (.struct F)) (h:F[i]? = some f) (l:P.underlying f.type=some d) (o:kx d=false) (p:cs[f.offset]? = some v):aF P n fr w (.field t x i) ty v w:=fun _ _ _ _ _ q=>by
 have r:(Instr.field t (.agg cs.toArray) i).run P w = .ok v w:=by
  unfold Instr.field;simp [run_underlying g,h,part,lZ l,o,p,asAgg]
 simp [execOp,q.ev c,r]
def R.Ii {f:FuncId} {c cs:List Operand} {d g:List Value} (l:Rl fr c=some d) (o:Rl fr cs=some g):aF P n fr w (.makeFunc (.func f) c.toArray cs.toArray) ty (.func (.func f) d.toArray g.toArray) w:=fun _ _ _ _ _ h=>by
 simp [execOp,nv h l,nv h o,Instr.makeFunc]
end
section
variable {P:Program} {T:List (Nat × TI)} {G:Gl} {O:bP} {n:Nat} {F:Fr} {w:World} {x y:Operand} {ty t t':TypeId} {ρ:List RE} {H:AH}
variable {m:Nat}
def Bb {c:Cx} (h:m<4294967296):Rt c ρ (one (.xx (.w m) [])) (.int .u32 (m:Int)):=⟨[],.nil,rfl,h,rfl⟩
def Vd {c:Cx} {v:Value} (h:Rt c ρ (one (.xx (.w m) [])) v):m<4294967296/\v = .int .u32 (m:Int):=by
 obtain ⟨a,_,h⟩:=h;exact h.2
variable {r:PR} {op:BinOp} {b a:Nat}
def SE (h:wOp op a b=some r) (g:∀ p ∈ r.ob,p) (i:a<4294967296) (k:b<4294967296) (d:ev F x=some (.int .u32 (a:Int))) (f:ev F y=some (.int .u32 (b:Int))) {c:Cx}:∃ v,aF P n F w (.binOp op t x y t') ty v w/\Rt c ρ r.v v/\r.fc=[]:=by
 unfold wOp at h;split at h <;> cases h
 ·exact ⟨_,R.eql d f,Pd.bool (e:=.eq _ _),rfl⟩
 ·exact ⟨_,R.neq d f,Pd.bool (e:=.not (.eq _ _)),rfl⟩
 ·have:=R.UE (P:=P) (n:=n) (w:=w) (ty:=ty) (t:=t) (t':=t') d f;exact ⟨_,this,Bb (af4 _ aE),rfl⟩
 ·have:=R.aeq (P:=P) (n:=n) (w:=w) (ty:=ty) (t:=t) (t':=t') d f;exact ⟨_,this,Bb (af4 _ aE),rfl⟩
 ·have j:=g _ (aaZ _);exact ⟨_,R.TG d f j,Bb (afW (Nat.mod_le _ _) i),rfl⟩
 ·have j:=g _ (aaZ _);have l:=afW (ag3 a b) i;exact ⟨_,R.TR d f j (wrap_u32 l),Bb l,rfl⟩
 exact ⟨_,R.orW d f i k,Bb (ahG (n:=32) i k),rfl⟩
def Us (h:wSh op a b=some r) (d:∀ p ∈ r.ob,p) (i:a<4294967296) (f:ev F x=some (.int .u32 (a:Int))) (g:ev F y=some (.int .u64 (b:Int))) {c:Cx}:∃ v,aF P n F w (.binOp op t x y t') ty v w/\Rt c ρ r.v v/\r.fc=[]:=by
 unfold wSh at h;split at h <;> cases h
 ·have e:=d _ (aaZ _);exact ⟨_,R.agM f g (ajx e),Bb (af4 _ aE),rfl⟩
 have e:=d _ (aaZ _);exact ⟨_,R.PF f g (ajx e),Bb (afW (ag3 _ _) i),rfl⟩
theorem ru {c:Cx} {d:List KC}:∀ {z g:List KC} {i:Nat},Ke z g=true->(∀ j,g.getD j .nf=d.getD (i+j) .nf)->All2 (Rd c ρ) (Dc d i z) (g.map KC.val)
 | [],[],_,_,_=>.nil
 | a :: _,[],_,h,_=>by cases a <;> simp [Ke] at h
 | a :: z,b :: g,i,h,l=>by
  have k:d.getD i .nf=b:=(l 0).symm;have f:∀ j,g.getD j .nf=d.getD (i+1+j) .nf:=fun j=>by
   have:=l (j+1);grind
  cases a <;> cases b <;> simp only [Ke,Bool.and_eq_true,decide_eq_true_eq] at h <;> try cases h
  ·refine .cons ?_ (ru ap f);rw [k];rename_i o _;exact (Pd.int o:Pd c _ _)
  ·refine .cons ?_ (ru h f);rw [k];exact Pd.bool (e:=.atom _)
  all_goals
   refine .cons ?_ (ru h f);rw [k];exact ⟨[],.nil,rfl,rfl⟩
theorem FU {z:List KC}:∀ {l:List (Int × List KC)} {k:Int},kmB z l=true->Ke z ((dO l k).getD z)=true
 | [],_,h=>h
 | (j,c) :: r,k,h=>by
  simp only [kmB,Bool.and_eq_true] at h;unfold dO;split
  ·exact h.1
  exact FU h.2
def tw (hT:bh P G.shp T) {c:Cx} {a:AV} {l h m:Int} {U:Value} (B:xj T t a l h m=some r) (f:∀ p ∈ r.ob,p) (D:Rd c ρ a U) :
  ∃ (e:TypeId) (s:Nat) (A:Option Addr) (len g i j k:Nat),P.underlying t=some (.slice e)/\(P.info? e).map (·.size)=some s/\U = .slice A len g/\l=i/\h=j/\m=k/\i<=j/\j<=k/\k<=g/\Rt c ρ r.v (.slice (if k=i then A else A.map (·.add (i*s))) (j - i) (k - i))/\r.fc=[]:=by
 unfold xj at B;split at B
 ·rename_i s xs;split at B
  ·rename_i o u;split at B
   ·rename_i I;have J:=acx I;subst J;cases B;have W:=f _ (.head _);have H:=f _ (.tail _ (.head _));have O:=f _ (.tail _ (.tail _ (.head _)));have o4:=f _ (.tail _ (.tail _ (.tail _ (.head _))));have K:0<=m:=by omega
    obtain ⟨i,rfl⟩:=aa5 W;obtain ⟨j,rfl⟩:=aa5 (show 0<=h by omega);obtain ⟨k,rfl⟩:=aa5 K;have D:Pd c _ _:=D;cases D with
    | @fz _ _ A g cells h1 h2 X Y L=>
    unfold Xz at u;split at u
    ·rename_i e so sz z N;subst u;obtain ⟨Z,b⟩:=(hT _ _ N).2;obtain ⟨_,⟨zz,Q,_⟩,_⟩:=b _ rfl;have C:(P.info? e).map (·.size)=some o.size:=by
      cases V:P.info? e with
      | none=>simp [V] at Q
      | some q=>simp [V] at Q; simp [Q.2.1]
     refine ⟨e,o.size,A,xs.length,g,i,j,k,Z,C,rfl,rfl,rfl,rfl,aE,aE,aE,?_,rfl⟩;have d:((xs.drop i).take (j - i)).length=j - i:=by rw [List.length_take,List.length_drop]; omega
     have n:((xs.drop i).take (j - i)).length*o.bytes<=140737488355328:=by
      refine Nat.le_trans (afK _ ?_) X;rw [d]; omega
     show Pd c (.fz o ((xs.drop (i:Int).toNat).take ((j:Int).toNat - (i:Int).toNat))) _;simp only [afM];have:=Pd.fz (c:=c) (s:=o) (xs:=(xs.drop i).take (j - i)) (a:=if k=i then A else A.map (·.add (i*o.size))) (k:=k - i) (cells:=(cells.drop (i*o.size)).take ((j - i)*o.size)) (by rw [d]; omega) aE n (bC (bV Y i) (j - i)) ?_
     ·rw [d] at this; exact this
     by_cases w:k=i
     ·left;have:j - i=0:=by omega
      rw [this]; rfl
     rw [if_neg w];rcases L with L | ⟨x,y,S,F⟩
     ·left; subst L; simp
     right;subst y;exact ⟨x.add (i*o.size),rfl,by rw [gb]; exact S,(F.drop _).take _⟩
    cases u
   cases B
  cases B
 cases B
variable {te tp:TypeId}
theorem Db (a:Option Addr) (c:P.underlying tp=some (.pointer te)):(binOp .eql tp (.pointer a) (.pointer none)).run P w = .ok (.bool a.isNone) w:=by
 have h:∀ d:Nat,(Op.equalIn (d+1) tp (.pointer a) (.pointer none)).run P w = .ok a.isNone w:=fun d=>by
  cases a <;> simp [Op.equalIn,run_underlying c]
 simp only [binOp];simp [Op.equal,Op.maxDepth,h 9999]
theorem Du (a:Option Addr) (c:P.underlying tp=some (.pointer te)):(binOp .neq tp (.pointer a) (.pointer none)).run P w = .ok (.bool !a.isNone) w:=by
 have h:∀ d:Nat,(Op.equalIn (d+1) tp (.pointer a) (.pointer none)).run P w = .ok a.isNone w:=fun d=>by
  cases a <;> simp [Op.equalIn,run_underlying c]
 simp only [binOp];simp [Op.equal,Op.maxDepth,h 9999]
theorem zt (op:BinOp) (t:TypeId) (x y:Operand) (a b:Option Addr):eqGuard op t x y (.pointer a) (.pointer b)=pure ():=by cases op <;> rfl
def HL (hT:bh P G.shp T) {a:Option Addr} (h:npE T t op a.isNone=some r) (i:ev F x=some (.pointer a)) (j:ev F y=some (.pointer none)) {c:Cx}:∃ v,aF P n F w (.binOp op t x y t') ty v w/\Rt c ρ r.v v/\r.fc=[]:=by
 unfold npE at h;split at h
 ·rename_i sz z d;obtain ⟨e,g⟩:=(hT _ _ d).2;cases h;exact ⟨.bool a.isNone,fun _ _ _ _ _ f=>by simp [execOp,f.ev i,f.ev j,zt,Db a g],Pd.bool (e:=.lit a.isNone),rfl⟩
 ·rename_i sz z d;obtain ⟨e,g⟩:=(hT _ _ d).2;cases h;exact ⟨.bool !a.isNone,fun _ _ _ _ _ f=>by simp [execOp,f.ev i,f.ev j,zt,Du a g],Pd.bool (e:=.lit !a.isNone),rfl⟩
 cases h
variable {op:Op}
def TW (hT:bh P G.shp T) (_:Rep G ρ H w) {fr:AFr} (C:FrR (cx G ρ w) ρ fr F) (h:pvX T H fr op=some r) (L:∀ p ∈ r.ob,p) :
  Yields P n F w op ty fun v w'=>Kp [] w w' /\ Rt (cx G ρ w') ρ r.v v/\∀ p ∈ r.fc,p:=by
 unfold pvX at h;split at h
 ·-- binOp
  split at h
  ·rename_i i o J Q;obtain ⟨S,B,g,_,rfl⟩:=aq C J;obtain ⟨vb,K,I⟩:=aq C Q;replace I:vb = .pointer none:=I;subst I;obtain ⟨v,U,X,Y⟩:=HL (P:=P) (n:=n) (w:=w) (ty:=ty) (ρ:=ρ) (c:=cx G ρ w) hT (a:=some ⟨g,o,none⟩) h B K;exact y0 U X (rH Y)
  ·rename_i J Q;obtain ⟨S,B,D⟩:=aq C J;replace D:S = .pointer none:=D;subst D;obtain ⟨vb,K,I⟩:=aq C Q;replace I:vb = .pointer none:=I;subst I;obtain ⟨v,U,X,Y⟩:=HL (P:=P) (n:=n) (w:=w) (ty:=ty) (ρ:=ρ) (c:=cx G ρ w) hT (a:=none) h B K;exact y0 U X (rH Y)
  ·rename_i a b J Q;obtain ⟨S,B,D⟩:=aq C J;obtain ⟨vb,K,I⟩:=aq C Q;obtain ⟨ka,rfl⟩:=Vd D;obtain ⟨kb,rfl⟩:=Vd I;obtain ⟨v,U,X,Y⟩:=SE (P:=P) (n:=n) (w:=w) (ty:=ty) (ρ:=ρ) (c:=cx G ρ w) h L ka kb B K;exact y0 U X (rH Y)
  ·rename_i a b J Q;obtain ⟨S,B,D⟩:=aq C J;obtain ⟨vb,K,I⟩:=aq C Q;obtain ⟨ka,rfl⟩:=Vd D;cases I with | u64 ib=>
   obtain ⟨v,U,X,Y⟩:=Us (P:=P) (n:=n) (w:=w) (ty:=ty) (ρ:=ρ) (c:=cx G ρ w) h L ka B K;exact y0 U X (rH Y)
  ·rename_i a b J Q;obtain ⟨S,B,D⟩:=aq C J;obtain ⟨vb,K,I⟩:=aq C Q;cases D with | int ia=>
   cases I with | u64 ib=>
   unfold iSh at h;split at h
   ·cases h;have g0:=L _ (.head _);have g1:=L _ (.tail _ (.head _));obtain ⟨m,rfl⟩:=aa5 g0;have hd:=ag3 m (2 ^ b);refine y0 (R.PF B K (ajx g1)) ?_ aa;rw [afM];generalize m / 2 ^ b=q at hd;exact Pd.int ⟨aE,by have:=ia.2; omega⟩
   cases h
  cases h
 ·-- convert
  split at h
  ·rename_i b hs hd J;cases h;obtain ⟨S,B,D⟩:=aq C J;cases D with | u8=>
   have e1:=(hT _ _ hs).2;have e2:=(hT _ _ hd).2;have:=R.conv (P:=P) (n:=n) (w:=w) (ty:=ty) B e1 e2
   have V:=b.toNat_lt;rw [wrap_u32 aE] at this;exact y0 this (Bb aE) aa
  ·rename_i m hs hd J;cases h;obtain ⟨S,B,D⟩:=aq C J;obtain ⟨_,rfl⟩:=Vd D;exact y0 (R.YA B (hT _ _ hs).2 (hT _ _ hd).2) Pd.u8 aa
  cases h
 ·-- lookup
  split at h
  ·rename_i kt et z sz zz l k Z J Q;obtain ⟨hm,hk,hz⟩:=(hT _ _ Z).2;obtain ⟨S,B,us,D,K⟩:=aq C J;obtain ⟨vb,I,U⟩:=aq C Q;cases U with | int=>
   obtain ⟨_,g,a,n',rfl,_,hg,x,hv⟩:=K;have y:kmB z l=true->(getM k a.toList).getD (.agg (z.map KC.val).toArray) = .agg (((dO l k).getD z).map KC.val).toArray/\(getM k a.toList).isSome=(dO l k).isSome:=fun _=>by
    rw [hv k]; cases dO l k <;> exact ⟨rfl,rfl⟩
   have W:kmB z l=true->di (cx G ρ w) ρ (.agg (Dc ((dO l k).getD z) 0 z)) (.agg (((dO l k).getD z).map KC.val).toArray):=fun V=>⟨_,rfl,ru (FU V) fun j=>by rw [acC]⟩;split at h
   ·rename_i V;cases h;have N:=R.q_ (P:=P) (n:=n) (ty:=ty) false B I hm hk hz hg x;rw [if_neg am,(y V).1] at N;exact y0 N (W V) aa
   ·rename_i V;cases h;have N:=R.q_ (P:=P) (n:=n) (ty:=ty) true B I hm hk hz hg x;rw [if_pos rfl,(y V).1,(y V).2] at N;exact y0 N ⟨_,rfl,.cons (W V) (.cons (Pd.bool (e:=.atom _)) .nil)⟩ aa
   cases h
  cases h
 ·-- field
  rename_i i;split at h
  ·rename_i fs sz z cs Z J hmem;split at h
   ·rename_i o k hi;split at h
    ·rename_i a ha;cases h;obtain ⟨_,Fs,hu,hm,hp,_,hfl⟩:=hT _ _ Z;obtain ⟨f,d,hf1,hf2,hf3⟩:=hfl _ hmem;obtain ⟨f',hf',hfs⟩:=yg hm _ _ hi;have e:f' = f:=by
      have:Fs[i]? = some f':=by simpa using hf'
      rw [this] at hf1; exact acD hf1
     subst e;rw [aeB] at hfs;obtain ⟨inf,hinf,he⟩:=hfs;cases he;obtain ⟨S,B,us,rfl,D⟩:=aq C J;obtain ⟨u,hu1,hu2⟩:=dQ D _ _ ha;exact y0 (R.abj B hu hf1 hf2 hf3 hu1) hu2 aa
    cases h
   cases h
  cases h
 ·-- makeFunc
  rename_i f b c;split at h
  ·rename_i bs cs V hc;split at h
   ·rename_i bp cp hbp hcp;cases h;obtain ⟨bv,B,D⟩:=lT C V;obtain ⟨cv,K,I⟩:=lT C hc;have:=R.Ii (P:=P) (n:=n) (w:=w) (ty:=ty) (f:=f) B K;rw [show b.toList.toArray=b by simp,show c.toList.toArray=c by simp] at this;exact y0 this ⟨bv,cv,oz hbp D,oz hcp I,rfl⟩ aa
   cases h
  cases h
 ·-- indexAddr
  split at h
  ·rename_i id i m e sz z J Q Z;split at h
   ·rename_i tb cs z1 hH hfe;split at h
    ·rename_i hck;cases h;have h0:=L _ (.head _);have h1':=L _ (.tail _ (.head _));obtain ⟨j,rfl⟩:=aa5 h0;obtain ⟨S,B,D⟩:=aq C J;obtain ⟨vb,K,I⟩:=aq C Q;cases I with | int=>
     obtain ⟨g,hg,rfl⟩:dY ρ (id,0) S:=D;have hse:(P.info? e).map (·.size)=some 1:=(hT _ _ hfe).1.1;exact y0 (R.iC B K (hT _ _ Z).2 hse aE) ⟨g,hg,by rw [afM]⟩ aa
    cases h
   cases h
  cases h
 ·-- slice,three places
  split at h
  ·rename_i a l' h' m' J hl hh hm;obtain ⟨S,B,D⟩:=aq C J;obtain ⟨vl,K,I⟩:=aq C hl;obtain ⟨vh,U,X⟩:=aq C hh;obtain ⟨vm,Y,h8⟩:=aq C hm;cases I with | int=>
   cases X with | int=>
   cases h8 with | int=>
   obtain ⟨e,s,A,len,cap,i,j,k,hu,hi,rfl,rfl,rfl,rfl,b1,b2,b3,W,hfc⟩:=tw (P:=P) hT h L D;exact y0 (R.slice3 B K U Y hu hi b1 b2 b3) W (rH hfc)
  cases h
 ·split at h
  ·rename_i a h' m' J hh hm;obtain ⟨S,B,D⟩:=aq C J;obtain ⟨vh,U,X⟩:=aq C hh;obtain ⟨vm,Y,h8⟩:=aq C hm;cases X with | int=>
   cases h8 with | int=>
   obtain ⟨e,s,A,len,cap,i,j,k,hu,hi,rfl,hi0,rfl,rfl,b1,b2,b3,W,hfc⟩:=tw (P:=P) hT h L D;obtain rfl:i=0:=by omega
   exact y0 (R.TT B U Y hu hi b2 b3) W (rH hfc)
  cases h
 ·rename_i t O;split at h
  ·rename_i m e sz z l ht hl;split at h
   ·rename_i cs he V;cases h;obtain ⟨pv,B,D⟩:=jU C hl;obtain ⟨us,K,I⟩:=tJ (P:=P) (n:=n) (w:=w) (ty:=ty) hT ht (hT _ _ he).1.1 B D V;have e:O.toList.toArray=O:=by simp
    rw [e] at K;exact y0 K ⟨us,rfl,I⟩ aa
   cases h
  cases h
 cases h
def ua (hT:bh P G.shp T) (g:aA P G.shp O) (d:Rep G ρ H w) {fr:AFr} (e:FrR (cx G ρ w) ρ fr F) (h:pv T O H fr op=some r) (c:∀ p ∈ r.ob,p) :
  Yields P n F w op ty fun v f=>Kp [] w f /\ Rt (cx G ρ f) ρ r.v v/\∀ p ∈ r.fc,p:=by
 unfold pv at h;split at h
 ·cases h; exact Uv hT g d e ap c
 exact TW hT d e h c
end
def jj (d:Option Nat) (v:Value) (F:Fr):Fr:=match d with
 | some d=>(d,v) :: F
 | none=>F
def kB (n:Nat):List Oper->Bool
 | []=>true
 | o :: r=>(match o.dst with
  | some d=>Nat.blt d n
  | none=>true) && kB n r
theorem k_ {n:Nat}:∀ {l:List Oper},kB n l=true->∀ o ∈ l,∀ d,o.dst=some d->Nat.blt d n=true
 | [],_,_,h,_,_=>by simp at h
 | a :: r,h,o,ho,d,b=>by
  simp only [kB,Bool.and_eq_true] at h;rcases acw.1 ho with rfl | ho
  ·grind
  exact k_ h.2 o ho d b
section
variable {P:Program} {Q:Exit->Act->World->Prop} {n:Nat} {l rest:List Oper} {F:Fr} {w:World} {op:Op} {ty:TypeId} {pos:String} {af:Array Edge}
variable {d:Option Nat}
theorem WO.y {φ:Value->World->Prop} (h:Yields P n F w op ty φ) (g:∀ i,d=some i -> Nat.blt i n=true) (k:∀ v e,φ v e -> WO P Q n l rest (jj d v F) e):WO P Q n l (⟨d,op,ty,pos,af,none⟩ :: rest) F w:=by
 cases d with
 | some d=>
  rcases h with ⟨v,e,a,b⟩ | ⟨f,args,a,b⟩
  ·exact WO.v a (g _ rfl) (k v e b)
  exact WO.c a b (g _ rfl) k
 | none=>
  rcases h with ⟨v,e,a,b⟩ | ⟨f,args,a,b⟩
  ·exact WO.v0 a (k v e b)
  exact WO.c0 a b k
variable {i:Nat} {ρ:List RE}
theorem Ix {c:Cx} {fr:AFr} (h:FrR c ρ fr F) (a:lookA fr i=none):look F i=none:=by
 induction h with
 | nil=>rfl
 | @cons p q fr F b _ e=>
  obtain ⟨f,g⟩:=q;unfold lookA at a;unfold look;grind
def ig {c:Cx} {fr:AFr} (h:FrR c ρ fr F) (a:iY fr d=true):∀ b,d=some b -> look F b = none:=by
 rintro b rfl;simp only [iY] at a;split at a
 ·rename_i e; exact Ix h e
 cases a
theorem jd {F:Fr} {i:Nat} {v:Value} (b:look F i=some v):∀ {a:Fr},(∀ q ∈ a,look F q.1=none)->look (a++F) i=some v
 | [],_=>b
 | (j,u) :: a,h=>by
  rw [List.cons_append,aW];by_cases c:j=i
  ·simp_all
  rw [if_neg c]; exact jd b fun q e=>h q (by simp [e])
variable {us:Fr}
def WO.drop (h:∀ q ∈ us,look F q.1=none) (k:WO P Q n l rest F w):WO P Q n l rest (us++F) w:=fun a b=>k a (b.sub fun _ _ c=>jd c h)
theorem WO.Ut {x:Nat × Value} (h:∀ q ∈ us,look F q.1=none) (k:WO P Q n l rest (x :: F) w):WO P Q n l rest (x :: (us++F)) w:=fun a c=>k a (c.sub fun i v b=>by
 obtain ⟨j,u⟩:=x;rw [aW] at b ⊢;by_cases e:j=i
 ·grind
 rw [if_neg e] at b ⊢; exact jd b h)
def IM (h:∀ q ∈ us,q.1≠i):look (us++F) i=look F i:=zw h
theorem yu {a b:Option (Nat × Bool)} (h:Mv a b=true):a=b:=by
 unfold Mv at h;split at h
 ·rfl
 ·simp_all
 cases h
theorem sq {F:Fr} {q:Nat × Value}:∀ {us:Fr},q ∈ us->(∀ q ∈ us,q.2=undef)->look (us++F) q.1=some undef
 | (i,u) :: us,e,a=>by
  rw [List.cons_append,aW];by_cases b:i=q.1
  ·simp_all
  rw [if_neg b];refine sq ?_ (fun z c=>a z (by simp [c]));grind
theorem lU {fr:AFr} {c:Cx} {ρ:List RE} (x:FrR c ρ fr F) {j t:Nat} {K b:Bool} (s:idst l j=some t) (u:look F t=some (.bool b)) (v:b = !K):∀ {p:List Oper} {us:Fr},Di l fr j K (us.map (·.1)) p=true->kB n p=true->(∀ q ∈ us,look F q.1=none/\q.2=undef)->WO P Q n l rest F w->WO P Q n l (p++rest) (us++F) w
 | [],us,_,_,a,k=>WO.drop (fun q hq=>(a q hq).1) k
 | o :: r,us,h,G,a,k=>by
  have y:=k_ G o aa;have f:kB n r=true:=by simp only [kB,Bool.and_eq_true] at G; exact G.2
  obtain ⟨dst,op,ty,pos,af,g⟩:=o;simp only [Di,Bool.and_eq_true] at h;obtain ⟨⟨L,h2⟩,D⟩:=h;have H:∀ q ∈ us,q.1≠t:=fun q hq e=>by have:=(a q hq).1; rw [e,u] at this; cases this
  have A:look (us++F) t=some (.bool b):=by rw [IM H]; exact u
  cases g with
  | none=>cases h2
  | some g=>
  simp only [Bool.or_eq_true,Bool.and_eq_true,beq_iff_eq] at h2;have m:∀ d,dst=some d->∀ q ∈ ((d,undef) :: us:Fr),look F q.1=none/\q.2=undef:=fun d I q hq=>by
   rcases acw.1 hq with rfl | hq
   ·exact ⟨ig x L d I,rfl⟩
   grind
  rcases h2 with ⟨J,N⟩ | h2
  ·have J:=aaF J;subst J; subst N;cases dst with
   | some d=>exact WO.off s A v (y d rfl) (lU x s u v (us:=(d,undef) :: us) D f (m d rfl) k)
   | none=>exact WO.adB s A v (lU x s u v D f a k)
  split at h2
  ·rename_i S B;obtain ⟨q,hq,rfl⟩:=ahE.1 (bw.1 h2);have C:look (us++F) q.1=some undef:=sq hq fun z O=>(a z O).2;cases dst with
   | some d=>exact WO.aaE B C (y d rfl) (lU x s u v (us:=(d,undef) :: us) D f (m d rfl) k)
   | none=>exact WO.WN B C (lU x s u v D f a k)
  cases h2
theorem pG {t:Nat}:∀ {g f e:List Oper} {j:Oper},uj t g=some (f,j,e)->g=f++j :: e/\oP t j=true
 | [],_,_,_,h=>by cases h
 | o :: r,f,e,j,h=>by
  unfold uj at h;cases k:oP t o <;> rw [k] at h
  ·simp only [cond_false] at h;split at h
   ·rename_i a b c m;obtain ⟨p,q⟩:=pG m;grind
   cases h
  grind
theorem oq {n:Nat}:∀ {a b:List Oper},kB n (a++b)=true↔kB n a=true/\kB n b=true
 | [],b=>by simp [kB]
 | o :: r,b=>by simp [kB,oq,and_assoc]
end
theorem ew:∀ {l:List Prop},jw l↔∀ p ∈ l,p
 | []=>by simp [jw]
 | [p]=>⟨fun h q a=>by rw [acr.1 a]; exact h,fun h=>h p (aaZ _)⟩
 | p :: q :: l=>by
  have:=ew (l:=q :: l);simp only [jw,this,agr]
variable {e:BE} {w:Bool}
def Jq {ob:List Prop} (h:∀ p ∈ oW e w ob,p) (a:e.val=w):∀ p ∈ ob,p:=by
 cases ob with
 | nil=>simp
 | cons p ob=>exact ew.1 (h _ (aaZ _) ((BE.fB e w).2 a))
def vX {ob:List Prop} (h:e.val=w->∀ p ∈ ob,p):∀ p ∈ oW e w ob,p:=by
 cases ob with
 | nil=>simp [oW]
 | cons p ob=>
  intro q a;rw [acr.1 a];exact fun b=>ew.2 (h ((BE.fB e w).1 b))
def dL {a:Option TV} (h:qA a=some e):a=some (one (.bool e)):=by
 unfold qA at h;split at h
 ·cases h; rfl
 cases h
section
variable {P:Program} {T:List (Nat × TI)} {G:Gl} {O:bP} {Q:Exit->Act->World->Prop} {n:Nat} {l:List Oper} {ρ:List RE} {H:AH}
def GOn (l:List Oper) (fr:AFr) (g:Option (Nat × Bool)):Prop:=∀ j a,g=some (j,a)->∃ t e,idst l j=some t/\lookA fr t=some (one (.bool e))/\e.val=a
variable {j:Nat}
theorem dw {i:Nat} {v:TV} {r:AFr}:lookA ((j,v) :: r) i=if j=i then some v else lookA r i:=by
 show (bif Nat.beq j i then some v else lookA r i)=_;simp_all
theorem GOn.put {fr:AFr} {g:Option (Nat × Bool)} (h:GOn l fr g) {d:Option Nat} {v:TV} (b:iY fr d=true):GOn l (qC d v fr) g:=by
 intro j c f;obtain ⟨t,e,i,a,k⟩:=h j c f;refine ⟨t,e,i,?_,k⟩;cases d with
 | none=>exact a
 | some d=>
  show lookA ((d,v) :: fr) t=_;rw [dw,if_neg]
  ·exact a
  rintro rfl;simp only [iY,a] at b;cases b
variable {w:World} {F:Fr}
def WO.onG {fr:AFr} {g:Option (Nat × Bool)} (h:GOn l fr g) (i:FrR (cx G ρ w) ρ fr F) {A:Fr} (m:∀ x ∈ A,look F x.1=none) {dst:Option Nat} {c:Op} {d:TypeId} {b:String} {f:Array Edge} {a:List Oper}
  (k:WO P Q n l (⟨dst,c,d,b,f,none⟩ :: a) (A++F) w):WO P Q n l (⟨dst,c,d,b,f,g⟩ :: a) (A++F) w:=by
 cases g with
 | none=>exact k
 | some g=>
  obtain ⟨j,o⟩:=g;obtain ⟨t,e,p,q,r⟩:=h j o rfl;obtain ⟨v,s,u⟩:=eH i q;cases u with | bool=>
  exact WO.on p (jd s m) r k
def acO (P:Program) (G:Gl) (Q:Exit->Act->World->Prop) (n:Nat) (l:List Oper) (ρ:List RE) (H:AH) (d:Option (Nat × Bool)->List Oper->AFr->Option GR):Prop:=
 ∀ (g:Option (Nat × Bool)) (b a:List Oper) (fr:AFr) (q:GR) (F:Fr) (w:World),d g b fr=some q->GOn l fr g->(∀ p ∈ q.ob,p)->kB n b=true->Rep G ρ H w->FrR (cx G ρ w) ρ fr F ->
  (∀ A c,Kp [] w c -> (∀ p ∈ q.fc,p)->FrR (cx G ρ c) ρ q.fr (A++F)->FrR (cx G ρ c) ρ fr F->(∀ x ∈ A,look F x.1=none)->WO P Q n l a (A++F) c)->WO P Q n l (b++a) F w
def FrR.kp {fr:AFr} {a:World} (h:FrR (cx G ρ w) ρ fr F) (k:Kp [] w a):FrR (cx G ρ a) ρ fr F:=h.carry (Kp.le k) (ky.refl _)
def EJ {N:Option (Nat × Bool)->List Oper->AFr->Option GR} (T:acO P G Q n l ρ H N) {g:Option (Nat × Bool)} {S tl:List Oper} {fr:AFr} {J:Bool} {r:GrpR} (h:Ve l fr g N j J S=some r) (hg:GOn l fr g) (hob:∀ p ∈ r.ob,p) (hd:kB n S=true) (hR:Rep G ρ H w) (U:FrR (cx G ρ w) ρ fr F)
  (k:∀ o,Kp [] w o -> (∀ p ∈ r.fc,p)->look F r.d=none->iY fr (some r.d)=true->FrR (cx G ρ o) ρ fr F->Nat.blt r.d n=true->kB n r.tail=true->WO P Q n l (r.tail++tl) ((r.d,.bool r.v.val) :: F) o):WO P Q n l (S++tl) F w:=by
 unfold Ve at h;split at h
 ·rename_i t hj;split at h
  ·rename_i e grp pk K he hs;split at h
   ·rename_i q hck hq;simp only [Bool.and_eq_true] at hck;obtain ⟨⟨hoff,B⟩,f⟩:=hck;split at h
    ·rename_i z x y d hpk C;split at h
     ·rename_i v D;cases h;obtain ⟨hops,V⟩:=pG hs;subst hops;replace B:=yu B;replace he:=dL he;obtain ⟨vt,hvt,hvr⟩:=eH U he;cases hvr with | bool=>
      obtain ⟨hd1,W⟩:=oq.1 hd;have hd3:kB n K=true:=by simp only [kB,Bool.and_eq_true] at W; exact W.2
      have X:Nat.blt d n=true:=k_ W pk aa d C;rw [C] at f;have hFd:look F d=none:=ig U f d rfl;obtain ⟨dst,op,ty,pos,af,pg⟩:=pk;simp only at hpk C B;subst hpk; subst C; subst B;have hz:z = .tmp t:=by
       cases z <;> simp only [oP] at V
       ·rw [aaF V]
       all_goals cases V
      subst hz;rw [List.append_assoc,List.cons_append]
      have L:∀ (A:Fr) (o:World) (b:Bool),e.val=b->(∀ u ∈ A,look F u.1=none)->Kp [] w o -> (∀ p ∈ oW e J q.fc,p)->FrR (cx G ρ o) ρ fr F->(∃ u,ev (A++F) (cond b x y)=some (.bool u)/\u=v.val)->WO P Q n l (⟨some d,.pick (.tmp t) x y,ty,pos,af,pg⟩ :: (K++tl)) (A++F) o:=by
       rintro A o b hb hA hk Y I ⟨u,hu,hv2⟩;subst hv2;refine WO.onG (G:=G) (ρ:=ρ) hg I hA ?_;have hl:ev (A++F) (.tmp t)=some (.bool e.val):=jd hvt hA;have key:=WO.Ut (x:=(d,.bool v.val)) hA (k o hk Y hFd f I X hd3);cases b with
       | true=>exact WO.v (R.AL hl hb hu) X key
       | false=>exact WO.v (R.CB hl hb hu) X key
      unfold Hd at D;by_cases i:e.val=J
      ·-- it is N
       refine T (some (j,J)) grp _ fr q F w hq (fun j' o hjw=>by cases hjw; exact ⟨t,e,hj,he,i⟩) (Jq hob i) hd1 hR U fun A o hk Y hfq I hA=>?_;refine L A o J i hA hk (vX fun _=>Y) I ?_;split at D
       ·rename_i a s c;cases D;obtain ⟨u,Z,O⟩:=aq hfq (dL s);cases O with | bool=>
        exact ⟨_,Z,by simp [BE.val,i]⟩
       ·rename_i a s c;cases D;obtain ⟨u,Z,O⟩:=aq hfq (dL s);cases O with | bool=>
        exact ⟨_,Z,by simp [BE.val,i]⟩
       cases D
      have m:e.val = !J:=by revert i; cases e.val <;> cases J <;> simp
      refine lU (us:=[]) U hj hvt m hoff hd1 aa ?_;refine L [] w (!J) m aa (Kp.refl w) (vX fun hh=>absurd hh i) U ?_;split at D
      ·rename_i a s c;cases D;obtain ⟨u,Z,O⟩:=aq U (dL c);cases O with | bool=>
       exact ⟨_,Z,by simp [BE.val,m]⟩
      ·rename_i a s c;cases D;obtain ⟨u,Z,O⟩:=aq U (dL c);cases O with | bool=>
       exact ⟨_,Z,by simp [BE.val,m]⟩
      cases D
     cases h
    cases h
   cases h
  cases h
 cases h
theorem nT (hT:bh P G.shp T) (V:aA P G.shp O):∀ m,acO P G Q n l ρ H (HV T O l H m)
 | 0=>fun g J b fr q F w h=>by cases J <;> cases h
 | m+1=>by
  intro g J b fr q F w h W u X Y z k;cases J with
  | nil=>
   cases h;exact k [] w (Kp.refl w) aa z z aa
  | cons o I=>
   have N:=k_ X o aa;have Z:kB n I=true:=by simp only [kB,Bool.and_eq_true] at X; exact X.2
   unfold HV at h;split at h
   ·rename_i B;replace B:=yu B;split at h
    ·rename_i r K S;split at h
     ·rename_i q2 C;cases h;obtain ⟨dst,op,ty,pos,af,og⟩:=o;simp only at B K S N C;subst B;rw [List.cons_append];refine WO.onG (A:=[]) (G:=G) (ρ:=ρ) W z aa ?_;change WO P Q n l _ F w;refine WO.y (ua (ty:=ty) hT V Y z S fun p hp=>u p (by simp [hp])) N fun v U ⟨a,hv1,c⟩=>?_;have D:FrR (cx G ρ U) ρ (qC dst r.v fr) (jj dst v F):=by
       cases dst with
       | some d=>exact .cons ⟨rfl,hv1⟩ (z.kp a)
       | none=>exact z.kp a
      refine nT hT V m og I b _ q2 _ U C (W.put K) (fun p hp=>u p (by simp [hp])) Z (Y.kp a) D fun A w2 f i s _ hA=>?_;have L:∀ x ∈ A++jj dst v [],look F x.1=none:=by
       intro x hx;rcases acq.1 hx with hx | hx
       ·have:=hA x hx;cases dst with
        | none=>exact this
        | some d=>
         simp only [jj] at this;rw [aW] at this;by_cases t:d=x.1
         ·rw [if_pos t] at this; cases this
         rw [if_neg t] at this; exact this
       cases dst with
       | none=>simp [jj] at hx
       | some d=>simp only [jj,acr] at hx; subst hx; exact ig z K d rfl
      have e:A++jj dst v F=(A++jj dst v [])++F:=by cases dst <;> simp [jj]
      rw [e] at s ⊢;exact k _ w2 (a.trans f) (fun p hp=>by
       rcases acq.1 hp with hp | hp
       ·exact c p hp
       exact i p hp) s ((z.kp a).kp f) L
     cases h
    cases h
   split at h
   ·rename_i j wt hog;split at h
    ·rename_i r hgr;split at h
     ·rename_i q2 C;cases h;refine EJ (G:=G) (H:=H) (nT hT V m) hgr W (fun p hp=>u p (by simp [hp])) X Y z fun U a c hFd hfd D hbd hdt=>?_;have hf2:FrR (cx G ρ U) ρ ((r.d,one (.bool r.v)) :: fr) ((r.d,.bool r.v.val) :: F):=.cons ⟨rfl,Pd.bool⟩ D;refine nT hT V m g r.tail b _ q2 _ U C (W.put (d:=some r.d) hfd) (fun p hp=>u p (by simp [hp])) hdt (Y.kp a) hf2 fun A w2 f i s _ hA=>?_;have L:∀ x ∈ A++[(r.d,Value.bool r.v.val)],look F x.1=none:=by
       intro x hx;rcases acq.1 hx with hx | hx
       ·have:=hA x hx;rw [aW] at this;by_cases t:r.d=x.1
        ·rw [if_pos t] at this; cases this
        rw [if_neg t] at this; exact this
       simp only [acr] at hx; subst hx; exact hFd
      have e:A++((r.d,Value.bool r.v.val) :: F)=(A++[(r.d,Value.bool r.v.val)])++F:=by simp
      rw [e] at s ⊢;exact k _ w2 (a.trans f) (fun p hp=>by
       rcases acq.1 hp with hp | hp
       ·exact c p hp
       exact i p hp) s (D.kp f) L
     cases h
    cases h
   cases h
end
variable {r:RE} {i:Nat} {ρ:List RE}
def sI {a:RE} (h:ρ[i]? = some a):(ρ++[r])[i]? = some a:=by
 rw [List.getElem?_append_left (aaw.1 h).1]; exact h
structure Stp (ro:Lv) (ρ:List RE) (w:World) (ρ':List RE) (w':World):Prop where
 ext:Ext ρ w ρ' w'
 loc:∀ (i:Nat) (r:RE),ro.mv i=false->ρ[i]? = some r->ρ'[i]? = some r
 pro:∀ (i:Nat) (r:RE),ro.wr i=false->ρ[i]? = some r->ρ'[i]? = some r/\∀ g,r.g? = some g->w'.heap[g]? = w.heap[g]?
 bx:∀ (i g:Nat),ρ[i]? = some (.blk g)->ρ'[i]? = some (.blk g)
def Stp.refl (a:Lv) (ρ:List RE) (w:World):Stp a ρ w ρ w:=⟨Ext.refl _ _,fun _ _ _ h=>h,fun _ _ _ h=>⟨h,fun _ _=>rfl⟩,fun _ _ h=>h⟩
def Stp.trans {m:Lv} {f j l:List RE} {a b c:World} (h:Stp m f a j b) (k:Stp m j b l c):Stp m f a l c:=
 ⟨h.ext.trans k.ext,fun i r d n=>k.loc i r d (h.loc i r d n),fun i r d n=>by
  obtain ⟨p,q⟩:=h.pro i r d n;obtain ⟨s,t⟩:=k.pro i r d p;exact ⟨s,fun g o=>(t g o).trans (q g o)⟩,fun i g d=>k.bx i g (h.bx i g d)⟩
def Stp.kp {b:Lv} {G:Gl} {H:AH} {ρ:List RE} {w a:World} (c:Rep G ρ H w) (k:Kp [] w a):Stp b ρ w ρ a:=
 ⟨Ext.kp k,fun _ _ _ h=>h,fun _ r _ h=>⟨h,fun g d=>k.block g (c.bnd _ r g h d).2.1 aa⟩,fun _ _ h=>h⟩
theorem Stp.app {c:Lv} {G:Gl} {H:AH} {ρ:List RE} {w a:World} {r:RE} (d:Rep G ρ H w) (k:Kp [] w a) (f:∀ b,r.g? = some b -> w.heap.size<=b):Stp c ρ w (ρ++[r]) a:=
 ⟨Ext.app k f,fun _ _ _ h=>sI h,fun i j _ h=>⟨sI h,fun g l=>k.block g (d.bnd _ j g h l).2.1 aa⟩,fun _ _ h=>sI h⟩
section
variable {c c':Cx} {ρ ρ':List RE} {g:AV->AV}
variable {vs:List Value}
def Gr (d:∀ a v,Rd c ρ a v->Rd c' ρ' (g a) v) {b:List AV} (h:All2 (Rd c ρ) b vs):All2 (Rd c' ρ') (rC g b) vs:=by
 induction h with
 | nil=>exact .nil
 | cons h _ f=>exact .cons (d _ _ h) f
def xg (b:∀ a v,Rd c ρ a v->Rd c' ρ' (g a) v) {t:TV1} {v:Value} (h:di c ρ t v):di c' ρ' (t.mapA g) v:=by
 cases t with
 | c a=>exact b _ _ h
 | agg l=>obtain ⟨vs,rfl,h⟩:=h; exact ⟨vs,rfl,Gr b h⟩
def Gg (d:∀ a v,Rd c ρ a v->Rd c' ρ' (g a) v) {b:List TV1} (h:All2 (di c ρ) b vs):All2 (di c' ρ') (xO g b) vs:=by
 induction h with
 | nil=>exact .nil
 | cons h _ f=>exact .cons (xg d h) f
def tV (d:∀ a v,Rd c ρ a v->Rd c' ρ' (g a) v) {fr:AFr} {F:Fr} (h:FrR c ρ fr F):FrR c' ρ' (ji g fr) F:=by
 induction h with
 | nil=>exact .nil
 | @cons p q fr F h _ f=>
  obtain ⟨i,t⟩:=p;refine .cons ⟨h.1,?_⟩ f;have b:=h.2;cases t with
  | one t=>exact xg d b
  | tup l=>obtain ⟨vs,e,b⟩:=b; exact ⟨vs,e,Gg d b⟩
  | un=>trivial
theorem ra:∀ l:List (Int × AV),mapM g l=l.map fun q=>(q.1,g q.2)
 | []=>rfl
 | (k,a) :: r=>by simp [mapM,ra r]
theorem lQ:∀ {H:AH} {i:Nat},(iF g H)[i]? = (H[i]?).map (AO.mapA g)
 | [],i=>by simp [iF]
 | o :: r,0=>by simp [iF]
 | o :: r,i+1=>by simpa [iF] using lQ (H:=r) (i:=i)
theorem fg:∀ {H:AH},(iF g H).length=H.length
 | []=>rfl
 | _ :: r=>by simp [iF,fg]
def OR.map (p:c.le c') (x:∀ a v,Rd c ρ a v->Rd c' ρ' (g a) v) {o:AO} {r:RE} (h:OR c ρ o r) (j:∀ g,r.g? = some g->c'.w.heap[g]? = c.w.heap[g]?):OR c' ρ' (o.mapA g) r:=by
 cases o with
 | gone=>exact h
 | mapo s f=>
  obtain ⟨b,rfl,h⟩:=h;exact ⟨b,rfl,h.carry p (j b rfl)⟩
 | loc=>trivial
 | mapf l=>
  obtain ⟨b,rfl,h⟩:=h;exact ⟨b,rfl,h.map (g0:=g) (ra l) (fun _ _ v h=>x _ v h) (j b rfl)⟩
 | arr t s n y=>
  obtain ⟨b,vs,rfl,k,m,q⟩:=h;exact ⟨b,vs,rfl,(j b rfl).trans k,m.carry p,q⟩
 | box t D=>
  obtain ⟨b,vs,rfl,k,m⟩:=h;exact ⟨b,vs,rfl,(j b rfl).trans k,Gr x m⟩
 | row t s y=>
  obtain ⟨k,m,q⟩:=h;refine ⟨p.shp ▸ k,m,q.imp id ?_⟩;rintro ⟨b,u,d,z,rfl,A,B,C⟩;exact ⟨b,u,d,z,rfl,(j b rfl).trans A,B.carry p,C⟩
end
def i_ {j:Nat} (a:i≠j):(ρ.set i r)[j]? = ρ[j]?:=List.getElem?_set_ne a
theorem zr {b:Nat} (h:live (ρ.set i r) b):live ρ b\/r.g? = some b:=by
 obtain ⟨j,d,c,f⟩:=h;by_cases a:i=j
 ·grind
 rw [i_ a] at c; exact .inl ⟨j,d,c,f⟩
section
variable {G:Gl} {ρ:List RE} {H:AH} {w:World}
variable {t:TypeId}
def na (a:Rep G ρ H w) {s:Sh} {f:List (den s)} (b:getO H i = .row t s f):(∀ g,ρ[i]? ≠ some (.blk g))/\i<ρ.length/\i<H.length:=by
 have j:=bM b aa;have c:=(aaw.1 j).1;refine ⟨fun g d=>?_,by rw [<- a.obj.length]; exact c,c⟩;rcases bE a b with ⟨h,_⟩ | ⟨_,_,_,_,h,_⟩ <;> rw [h] at d <;> cases d
variable {ro:Lv}
def agH (C:Rep G ρ H w) {s:Sh} {O:List (den s)} (hi:getO H i = .row t s O) (hro:ro.mv i=true) (P:ro.wr i=true) :
  (∀ a v,Rd (cx G ρ w) ρ a v->Rd (cx G (ρ.set i .no) w) (ρ.set i .no) (a.Ji H i) v)/\Rep G (ρ.set i .no) ((iF (AV.Ji H i) H).set i .gone) w/\Stp ro ρ w (ρ.set i .no) w/\(cx G ρ w).le (cx G (ρ.set i .no) w):=by
 obtain ⟨K,F,hiH⟩:=na C hi;have J:Ext ρ w (ρ.set i .no) w:=⟨rfl,rfl,rfl,Nat.le_refl _,fun b _ hl=>⟨fun h=>(zr h).elim hl (by rintro ⟨⟩),rfl⟩⟩;have d:=J.le C.lo;have u:∀ j r,i≠j->ρ[j]? = some r->(ρ.set i .no)[j]? = some r:=fun j r c h=>by rw [i_ c]; exact h
 have B:∀ q v,dY ρ q v->dY (ρ.set i .no) q v:=fun q v ⟨g,m,y⟩=>⟨g,u _ _ (fun e=>K g (e ▸ m)) m,y⟩;have Q:∀ a v,Rd (cx G ρ w) ρ a v->Rd (cx G (ρ.set i .no) w) (ρ.set i .no) (a.Ji H i) v:=by
  intro a v h;have T:∀ g p len z,ρ[i]? = some (.row g p len z)->(cx G (ρ.set i .no) w).S g:=fun g p len z m=>by
   have D:=C.bnd _ _ g m rfl;refine ⟨D.2.1,fun hl=>?_,D.2.2⟩;obtain ⟨j,r',y,L⟩:=hl;by_cases c:i=j
   ·subst c; rw [adU F] at y; cases y; cases L
   rw [i_ c] at y; exact c (C.inj _ _ _ _ g m y rfl L)
  cases a with
  | own j=>
   simp only [AV.Ji];cases D:Nat.beq i j
   ·have c:i≠j:=by rintro rfl; simp at D
    rcases h with ⟨g,p,len,z,h,e⟩ | ⟨h,e⟩
    ·exact .inl ⟨g,p,len,z,u _ _ c h,e⟩
    exact .inr ⟨u _ _ c h,e⟩
   have c:=aaF D;subst c;simp only [cond_true];have U:(AV.own i).vw H = .fz s O:=by simp [AV.vw,hi]
   rw [U];refine kU (nE C d rfl h (fun g p len z ⟨id,I,m⟩=>?_) U);rcases I with I | ⟨_,_,I⟩ <;> cases I;exact T g p len z m
  | sub j o k=>
   simp only [AV.Ji];cases D:Nat.beq i j
   ·have c:i≠j:=by rintro rfl; simp at D
    rcases h with ⟨g,p,len,z,h,e⟩ | ⟨h,e⟩
    ·exact .inl ⟨g,p,len,z,u _ _ c h,e⟩
    exact .inr ⟨u _ _ c h,e⟩
   have c:=aaF D;subst c;simp only [cond_true];have U:(AV.sub i o k).vw H = .fz s ((O.drop o).take k):=by simp [AV.vw,hi]
   rw [U];refine kU (nE C d rfl h (fun g p len z ⟨id,I,m⟩=>?_) U);rcases I with I | ⟨_,_,I⟩ <;> cases I;exact T g p len z m
  | elp j k o=>
   simp only [AV.Ji];cases D:Nat.beq i j
   ·have c:i≠j:=by rintro rfl; simp at D
    obtain ⟨g,p,len,z,h,e⟩:=h;exact ⟨g,p,len,z,u _ _ c h,e⟩
   exact Rd.one h
  | ptr j o=>exact B _ _ h
  | mq j=>
   obtain ⟨g,m,e⟩:=h;exact ⟨g,u _ _ (fun e=>K g (e ▸ m)) m,e⟩
  | fn f b cs=>
   obtain ⟨bs,us,m,y,e⟩:=h;exact ⟨bs,us,m.imp fun _ _ h=>B _ _ h,y.imp fun _ _ h=>B _ _ h,e⟩
  | fe s' x o=>
   obtain ⟨A,N,m,y,L,e⟩:=h;exact ⟨A,N,(d.S _ m).1,y,L.carry d,e⟩
  | np=>exact h
  | nf=>exact h
  | yl l=>exact h
  | xx k cs=>
   obtain ⟨us,m,y⟩:=h;exact ⟨us,m.imp fun _ _ h=>B _ _ h,y.le d⟩
  | dead=>exact h
  | int n=>exact Pd.carry h d
  | u8 b=>exact Pd.carry h d
  | u64 n=>exact Pd.carry h d
  | bool e=>exact Pd.carry h d
  | str s=>exact Pd.carry h d
  | em b=>exact Pd.carry h d
  | li nw O=>exact Pd.carry h d
  | fz s O=>exact Pd.carry h d
 refine ⟨Q,⟨cA (by simp [fg,C.obj.length]) fun j o r V hr=>?_,fun a b r r' g m y L h4=>?_,fun j r g m y=>?_,C.z,C.b0,C.tb.carry d⟩,⟨J,fun j r W h=>u j r (by rintro rfl; rw [hro] at W; cases W) h,fun j r W h=>⟨u j r (by rintro rfl; rw [P] at W; cases W) h,fun _ _=>rfl⟩,fun j g h=>u j _ (fun e=>K g (e ▸ h)) h⟩,d⟩
 ·by_cases c:i=j
  ·subst c;rw [adU (by rw [fg]; exact hiH)] at V;rw [adU F] at hr;cases V; cases hr;rfl
  rw [List.getElem?_set_ne c,lQ] at V;rw [i_ c] at hr;rw [aeB] at V;obtain ⟨o',ho',rfl⟩:=V;obtain ⟨r',X,hor⟩:=C.at_ ho';rw [hr] at X; cases X;exact hor.map d Q fun _ _=>rfl
 ·have Y:∀ (a:Nat) (r:RE),(ρ.set i .no)[a]? = some r->r.g? = some g->ρ[a]? = some r:=fun a r m y=>by
   by_cases Z:i=a
   ·subst Z; rw [adU F] at m; cases m; cases y
   rw [i_ Z] at m; exact m
  exact C.inj a b r r' g (Y a r m L) (Y b r' y h4) L h4
 by_cases c:i=j
 ·subst c; rw [adU F] at m; cases m; cases y
 rw [i_ c] at m; exact C.bnd j r g m y
def ad3 {j:Nat} (a:i≠j) {s:Sh} {b:List (den s)} (h:getO H j = .row t s b):getO ((iF (AV.Ji H i) H).set i .gone) j = .row t s b:=by
 have:=bM h aa;unfold getO;rw [List.getD_eq_getElem?_getD,List.getElem?_set_ne a,lQ,this];rfl
theorem gY {ro:Lv} {F:Fr}:∀ {l:List Nat} {fr:AFr} {H:AH} {ρ:List RE} {q:AFr × AH},iV ro l fr H=some q->Rep G ρ H w->FrR (cx G ρ w) ρ fr F ->
  ∃ c,Stp ro ρ w c w/\(cx G ρ w).le (cx G c w)/\Rep G c q.2 w/\FrR (cx G c w) c q.1 F/\q.2.length=H.length /\
   (∀ (n:AH) a v,(∀ i,(a = .own i\/∃ o k,a = .sub i o k)->i ∈ l/\∃ t s xs,getO n i = .row t s xs)->((Rd (cx G ρ w) ρ a v/\∀ i,(a = .own i\/∃ o k,a = .sub i o k)->getO H i=getO n i)\/Pd (cx G ρ w) (a.vw n) v)->(∀ i,a ≠ .own i/\∀ o k,a ≠ .sub i o k)\/Pd (cx G c w) (a.vw n) v) /\
   (∀ i o,i ∉ l->H[i]? = some o->((∀ t O,o ≠ .box t O)/\∀ l,o ≠ .mapf l)->q.2[i]? = some o)/\(∀ i,i ∉ l->c[i]? = ρ[i]?)
 | [],fr,H,ρ,q,h,K,L=>by
  cases h;refine ⟨ρ,Stp.refl _ _ _,Cx.le.refl _,K,L,rfl,fun n a v f h=>?_,fun i o _ h _=>h,fun _ _=>rfl⟩;by_cases b:∃ i,a = .own i\/∃ o k,a = .sub i o k
  ·obtain ⟨i,N⟩:=b;have:=(f i N).1;simp at this
  left;intro i;exact ⟨fun e=>b ⟨i,.inl e⟩,fun o k e=>b ⟨i,.inr ⟨o,k,e⟩⟩⟩
 | i :: l,fr,H,ρ,q,h,K,L=>by
  unfold iV at h;split at h
  ·rename_i t s xs N;split at h
   ·rename_i u;simp only [Bool.and_eq_true] at u;obtain ⟨x,P,Q,A⟩:=agH K N (ro:=ro) u.1 u.2;obtain ⟨c,S,B,T,U,V,h6,W,X⟩:=gY h P (tV x L);refine ⟨c,Q.trans S,A.trans B,T,U,by rw [V]; simp [fg],fun n a v f hd=>?_,fun j o d ho C=>?_,fun j d=>?_⟩
    ·-- the element's cell
     by_cases b:∃ j,a = .own j\/∃ o k,a = .sub j o k
     ·obtain ⟨j,d⟩:=b;right;have p:Pd (cx G (ρ.set i .no) w) (a.vw n) v\/(Rd (cx G (ρ.set i .no) w) (ρ.set i .no) a v/\i≠j/\getO H j=getO n j):=by
       rcases hd with ⟨hd,D⟩ | hd
       ·have e:=D j d;by_cases m:i=j
        ·subst m;left;have I:=x a v hd;have hv:a.vw H=a.vw n:=by rcases d with rfl | ⟨o,k,rfl⟩ <;> simp [AV.vw,e]
         have Y:a.Ji H i=a.vw H:=by rcases d with rfl | ⟨o,k,rfl⟩ <;> simp [AV.Ji]
         rw [Y,hv] at I;have hp:(a.vw n).plain=true:=by
          rw [<- hv];rcases d with rfl | ⟨o,k,rfl⟩ <;> simp [AV.vw,N,AV.plain]
         exact (gU hp).1 I
        right;have I:=x a v hd;have Y:a.Ji H i=a:=by
         have C:Nat.beq i j=false:=by rw [<- Bool.not_eq_true,Nat.beq_eq]; exact m
         rcases d with rfl | ⟨o,k,rfl⟩ <;> simp [AV.Ji,C]
        rw [Y] at I;exact ⟨I,m,e⟩
       exact .inl (hd.carry A)
      rcases p with p | ⟨p,m,e⟩
      ·-- done; carry on
       exact p.carry B
      obtain ⟨hm,Z,r,xx,g⟩:=f j d;have hml:j ∈ l:=by
       rcases acw.1 hm with e2 | hm
       ·exact absurd e2.symm m
       exact hm
      have y:getO H j = .row Z r xx:=e.trans g;refine (h6 n a v (fun j' z=>?_) (.inl ⟨p,fun j' z=>?_⟩)).resolve_left fun hh=>?_
      ·have:j' = j:=by rcases d with rfl | ⟨o,k,rfl⟩ <;> rcases z with J | ⟨_,_,J⟩ <;> cases J <;> rfl
       subst this; exact ⟨hml,Z,r,xx,g⟩
      ·have:j' = j:=by rcases d with rfl | ⟨o,k,rfl⟩ <;> rcases z with J | ⟨_,_,J⟩ <;> cases J <;> rfl
       subst this;rw [ad3 m y,g]
      rcases d with rfl | ⟨o,k,rfl⟩
      ·exact (hh j).1 rfl
      exact (hh j).2 _ _ rfl
     left;intro i;exact ⟨fun e=>b ⟨i,.inl e⟩,fun o k e=>b ⟨i,.inr ⟨o,k,e⟩⟩⟩
    ·simp only [acw,not_or] at d;refine W j o d.2 ?_ C;rw [List.getElem?_set_ne (Ne.symm d.1),lQ,ho];cases o with
     | box t O=>exact absurd rfl (C.1 t O)
     | mapf l=>exact absurd rfl (C.2 l)
     | _=>rfl
    simp only [acw,not_or] at d;rw [X j d.2,i_ (Ne.symm d.1)]
   cases h
  rename_i hnr;obtain ⟨c,S,B,T,U,V,h6,W,X⟩:=gY h K L;refine ⟨c,S,B,T,U,V,fun n a v f hd=>?_,fun j o d=>W j o fun hm=>d (by simp [hm]),fun j d=>X j fun hm=>d (by simp [hm])⟩;by_cases b:∃ j,a = .own j\/∃ o k,a = .sub j o k
  ·obtain ⟨j,d⟩:=b;obtain ⟨hm,Z,r,xx,g⟩:=f j d;rcases hd with ⟨hd,D⟩ | hd
   ·grind
   exact .inr (hd.carry B)
  left;intro i;exact ⟨fun e=>b ⟨i,.inl e⟩,fun o k e=>b ⟨i,.inr ⟨o,k,e⟩⟩⟩
theorem pO {fr:AFr} {F:Fr} {l:List Nat} {q:AFr × AH} (h:iV ro l fr H=some q) (A:Rep G ρ H w) (B:FrR (cx G ρ w) ρ fr F) :
  ∃ b,Stp ro ρ w b w/\(cx G ρ w).le (cx G b w)/\Rep G b q.2 w/\FrR (cx G b w) b q.1 F/\q.2.length=H.length /\
   (∀ (c:List AV) (p:List Value),(∀ i ∈ eU c,i ∈ l)->All2 (Rd (cx G ρ w) ρ) c p->All2 (Qd (cx G b w)) (Hj H c) p)/\(∀ i o,i ∉ l->H[i]? = some o->((∀ t C,o ≠ .box t C)/\∀ l,o ≠ .mapf l)->q.2[i]? = some o)/\(∀ i,i ∉ l->b[i]? = ρ[i]?):=by
 obtain ⟨b,D,y,I,J,K,L,N,O⟩:=gY h A B;refine ⟨b,D,y,I,J,K,fun c p f P=>?_,N,O⟩;induction P with
 | nil=>exact .nil
 | @cons a v c p g _ Q=>
  refine .cons ?_ (Q fun i m=>f i (by cases a <;> simp [eU,m]));intro u;by_cases d:∃ i,a = .own i\/∃ o k,a = .sub i o k
  ·obtain ⟨i,m⟩:=d;have n:∃ t s x,getO H i = .row t s x:=by
    cases S:getO H i with
    | row t s x=>exact ⟨t,s,x,rfl⟩
    | _=>rcases m with rfl | ⟨o,k,rfl⟩ <;> simp [AV.vw,S,AV.plain] at u
   refine (L H a v (fun j T=>?_) (.inl ⟨g,fun _ _=>rfl⟩)).resolve_left fun U=>?_
   ·have:j=i:=by rcases m with rfl | ⟨o,k,rfl⟩ <;> rcases T with z | ⟨_,_,z⟩ <;> cases z <;> rfl
    subst this;refine ⟨f j ?_,n⟩;rcases m with rfl | ⟨o,k,rfl⟩ <;> simp [eU]
   grind
  have e:a.vw H=a:=by
   cases a <;> first | rfl | exact absurd ⟨_,.inl rfl⟩ d | exact absurd ⟨_,.inr ⟨_,_,rfl⟩⟩ d
  rw [e] at u ⊢;exact ((gU u).1 g).carry y
end
def eK (P:Program) (n:Nat) (F:Fr) (w:World) (a:Op) (b:TypeId) (c:Value->World->Prop):Prop:=
 Yields P n F w a b c\/(isSt a=true/\∃ d,gZ P n F w a b d /\ c undef d)
def eN (G:Gl) (c:Lv) (ρ:List RE) (w:World) (r:SR) (F:Fr) (v:Value) (b:World):Prop:=
 ∃ a,Stp c ρ w a b /\ Rep G a r.H b /\ FrR (cx G a b) a r.fr F/\Rt (cx G a b) a r.v v/\∀ p ∈ r.fc,p
section
variable {P:Program} {T:List (Nat × TI)} {G:Gl} {O:bP} {n:Nat} {F:Fr} {w:World} {x y:Operand} {ty t:TypeId} {ρ:List RE} {H:AH} {fr:AFr} {ro:Lv}
theorem R.box {v:Value} {c:List Value} (d:ev F x=some v) (b:v.cells=c.toArray):aF P n F w (.box t x) ty (.pointer (some ⟨w.heap.size,0,none⟩)) (w.alloc (.cells c.toArray t)):=
 fun a _ _ _ _ f=>by simp [execOp,f.ev d,Instr.box,newVar,newRow,b]
theorem R.alloc {d:List Value} (f:((P.info? t).bind (·.zero)).map Value.cells=some d.toArray):aF P n F w (.alloc t) ty (.pointer (some ⟨w.heap.size,0,none⟩)) (w.alloc (.cells d.toArray t)):=fun a _ _ _ _ _=>by
 cases c:P.info? t with
 | none=>simp [c] at f
 | some i=>
  cases b:i.zero with
  | none=>simp [c,b] at f
  | some z=>
   have:z.cells=d.toArray:=by simpa [c,b] using f
   simp [execOp,Instr.alloc,newVar,newRow,zeroValue,typeInfo,c,b,this]
variable {cs:List AV} {us:List Value}
def RB {c:Cx} {g:Nat} (f:c.w.heap[g]? = some (.cells us.toArray t (0,0))) (b:All2 (Rd c ρ) cs us):OR c ρ (Q_ T t cs) (.blk g):=by
 have d:OR c ρ (.box t cs) (.blk g):=⟨g,us,rfl,f,b⟩;unfold Q_;split
 ·split
  ·split
   ·split
    ·rename_i a;simp only [Bool.and_eq_true] at a;exact ⟨g,us,rfl,f,ll ap b,aaF a.1,aaF a.2⟩
    exact d
   exact d
  exact d
 exact d
def wy (d:Rep G ρ H w) (k:FrR (cx G ρ w) ρ fr F) (f:All2 (Rd (cx G ρ w) ρ) cs us):eN G ro ρ w ⟨one (.ptr H.length 0),fr,H++[Q_ T t cs],[],[]⟩ F (.pointer (some ⟨w.heap.size,0,none⟩)) (w.alloc (.cells us.toArray t)):=by
 have j:=Kp.alloc w (.cells us.toArray t);have a:Ext ρ w (ρ++[.blk w.heap.size]) (w.alloc (.cells us.toArray t)):=Ext.app j fun g b=>by cases b; exact Nat.le_refl _
 have c:=a.le d.lo;refine ⟨ρ++[.blk w.heap.size],Stp.app d j (fun g b=>by cases b; exact Nat.le_refl _),d.app j (fun g b=>by cases b; exact ⟨Nat.le_refl _,aa⟩) (RB (af6 w _) (f.imp fun _ _ h=>h.carry c (gk _ _))),k.carry c (gk _ _),⟨w.heap.size,by rw [d.obj.length]; simp,rfl⟩,aa⟩
def R.store {g o:Nat} {d:TypeId} {b us:List Value} {v:Value} (k:ev F x=some (.pointer (some ⟨g,o,none⟩))) (l:ev F y=some v) (m:w.heap[g]? = some (.cells (List.toArray b) d (0,0))) (p:v.cells=us.toArray) (q:∀ u ∈ us,u.oneCell' = true) (f:(P.info? t).map (·.size)=some us.length) (s:o+us.length<=b.length) :
  gZ P n F w (.store t x y) ty (w.setRow g (b.take o++us++b.drop (o+us.length)).toArray):=fun a _ _ _ _ h=>by
 have j:=run_storeCells_at (P:=P) g o d us 0 b.toArray w m (by simpa using s) q;cases c:P.info? t with
 | none=>simp [c] at f
 | some i=>
  have z:i.size=us.length:=by simpa [c] using f
  simp [execOp,h.ev k,h.ev l,Instr.storeAt,Instr.sureAddr,storeVar,sizeOf,typeInfo,c,z,p] at j ⊢;simp [j]
def BN (hT:bh P G.shp T) (Q:Rep G ρ H w) (hf:FrR (cx G ρ w) ρ fr F) {a:AV} {b:TV1} {va vb:Value} {r:SR} {ti:TI} (ht:a_ T t=some ti) (hsz:Nat.beq ti.size b.cells.length=true) (ha:Rd (cx G ρ w) ρ a va) (hb:di (cx G ρ w) ρ b vb) (hx:ev F x=some va) (hy:ev F y=some vb) (h:Ec ro fr H a b=some r) (hob:∀ p ∈ r.ob,p) :
  ∃ w',gZ P n F w (.store t x y) ty w' /\ eN G ro ρ w r F undef w':=by
 have hsz:=aaF hsz;obtain ⟨us,hus,U⟩:=di.cells hb;have hul:=U.length;have h1:∀ u ∈ us,u.oneCell' = true:=fun u hu=>by
  obtain ⟨i,hi⟩:=List.getElem?_of_mem hu;obtain ⟨a',_,h⟩:=U.get i u hi;exact Rd.one h
 have K:(P.info? t).map (·.size)=some us.length:=by rw [(hT _ _ ht).1.1,hsz,hul]
 unfold Ec at h;split at h
 ·-- a box
  rename_i id o;split at h
  ·rename_i tb cs hH;split at h
   ·rename_i B;cases h;simp only [Bool.and_eq_true] at B;have V:=B.1;have hlen:=afL B.2;have J:=bM hH aa;obtain ⟨r,X,g,C,rfl,Z,h3⟩:=Q.at_ J;obtain ⟨L,f,rfl⟩:=ha;rw [X] at f; cases f;have hvl:=h3.length;refine ⟨_,R.store hx hy Z hus h1 K aE,ρ,?_⟩;have d:=Kp.setRow w g (C.take o++us++C.drop (o+us.length)).toArray;have N:(w.setRow g (C.take o++us++C.drop (o+us.length)).toArray).heap[g]? = some (.cells (C.take o++us++C.drop (o+us.length)).toArray tb (0,0)):=afU w g _ _ tb _ Z;have D:Ext ρ w ρ (w.setRow g (C.take o++us++C.drop (o+us.length)).toArray):=⟨d.os,d.tape,d.output,d.size,fun b hb e=>⟨e,d.block b hb (by
     simp only [acr];rintro rfl;exact e ⟨id,_,X,rfl⟩)⟩⟩
    have I:=D.le Q.lo;have k:=Q.put J X rfl d (o':=.box tb (over cs o b.cells)) ⟨g,_,rfl,N,by
     unfold over;rw [hul];exact (((h3.take o).append U).append (h3.drop _)).imp fun _ _ h=>h.carry I (ky.refl _)⟩
    refine ⟨⟨k.2,fun _ _ _ h=>h,fun i r' hi A=>⟨A,fun L f=>d.block L (Q.bnd i r' L A f).2.1 ?_⟩,fun _ _ h=>h⟩,k.1,hf.carry I (ky.refl _),trivial,aa⟩;simp only [acr];rintro rfl;have:=Q.inj i id _ _ L A X f rfl;subst this; rw [V] at hi; cases hi
   cases h
  ·-- an array
   rename_i ta s m S hH;split at h
   ·rename_i a1 B hcell;split at h
    ·rename_i x' hpl hof;cases h;simp only [Bool.and_eq_true] at B;have V:=B.1;have W:=aaF B.2;have ho:=hob _ (aaZ _);have J:=bM hH aa;obtain ⟨r,X,g,C,rfl,Z,h3,h4,h5⟩:=Q.at_ J;obtain ⟨L,f,rfl⟩:=ha;rw [X] at f; cases f;rw [hcell] at U;cases U with | @cons _ u _ _ hu1 hu2=>
     cases hu2;have hvl:C.length=m:=by rw [<- h3.length,bU,h4,W,ai2]
     have hlu:[u].length=1:=rfl;have d:=Kp.setRow w g (C.take o++[u]++C.drop (o+[u].length)).toArray;have N:(w.setRow g (C.take o++[u]++C.drop (o+[u].length)).toArray).heap[g]? = some (.cells (C.take o++[u]++C.drop (o+[u].length)).toArray ta (0,0)):=afU w g _ _ ta _ Z;have D:Ext ρ w ρ (w.setRow g (C.take o++[u]++C.drop (o+[u].length)).toArray):=⟨d.os,d.tape,d.output,d.size,fun b hb e=>⟨e,d.block b hb (by
      simp only [acr];rintro rfl;exact e ⟨id,_,X,rfl⟩)⟩⟩
     have I:=D.le Q.lo;have hxo:S[o]? = some (S.getD o (au s)):=by
      rw [List.getD_eq_getElem?_getD,List.getElem?_eq_getElem aE]; rfl
     have hsp:Pds (cx G ρ w) (cellsOf s x') [u]:=aK hof (.cons (fun hp=>(gU hp).1 hu1) .nil);have hnew:Pds (cx G ρ w) ((S.set o x').flatMap (cellsOf s)) (C.take o++[u]++C.drop (o+[u].length)):=by
      rw [AI hxo];have f1:=bC h3 o;have f2:=bV h3 (o+1);rw [W,ai2] at f1 f2;exact (f1.append hsp).append f2
     have k:=Q.put J X rfl d (o':=.arr ta s m (S.set o x')) ⟨g,_,rfl,N,hnew.carry I,by rw [acF]; exact h4,W⟩;refine ⟨_,R.store hx hy Z hus h1 K (by rw [hlu]; omega),ρ,⟨k.2,fun _ _ _ h=>h,fun i r' hi A=>⟨A,fun L f=>d.block L (Q.bnd i r' L A f).2.1 ?_⟩,fun _ _ h=>h⟩,k.1,hf.carry I (ky.refl _),trivial,aa⟩;simp only [acr];rintro rfl;have:=Q.inj i id _ _ L A X f rfl;subst this; rw [V] at hi; cases hi
    cases h
   ·-- all of it
    rename_i B hne;split at h
    ·rename_i l ho e;split at h
     ·rename_i hln;cases h;simp only [Bool.and_eq_true] at B;have V:=B.1;have W:=aaF B.2;have ho:=aaF ho;subst ho;have hln:=aaF hln;have J:=bM hH aa;obtain ⟨r,X,g,C,rfl,Z,h3,h4,h5⟩:=Q.at_ J;obtain ⟨L,f,rfl⟩:=ha;rw [X] at f; cases f;have hpd:=ll e U;have hul2:us.length=m:=by rw [<- hpd.length,bU,hln,W,ai2]
      have hvl:C.length=m:=by rw [<- h3.length,bU,h4,W,ai2]
      have he:C.take 0++us++C.drop (0+us.length)=us:=by
       rw [ajz,ail,afY aE,ad8]
      have hst:=R.store (P:=P) (n:=n) (F:=F) (w:=w) (t:=t) (ty:=ty) hx hy Z hus h1 K aE;rw [he] at hst;have d:=Kp.setRow w g us.toArray;have N:(w.setRow g us.toArray).heap[g]? = some (.cells us.toArray ta (0,0)):=afU w g _ _ ta _ Z;have D:Ext ρ w ρ (w.setRow g us.toArray):=⟨d.os,d.tape,d.output,d.size,fun b hb e=>⟨e,d.block b hb (by
       simp only [acr];rintro rfl;exact e ⟨id,_,X,rfl⟩)⟩⟩
      have I:=D.le Q.lo;have k:=Q.put J X rfl d (o':=.arr ta s m l) ⟨g,_,rfl,N,hpd.carry I,hln,W⟩;refine ⟨_,hst,ρ,⟨k.2,fun _ _ _ h=>h,fun i r' hi A=>⟨A,fun L f=>d.block L (Q.bnd i r' L A f).2.1 ?_⟩,fun _ _ h=>h⟩,k.1,hf.carry I (ky.refl _),trivial,aa⟩;simp only [acr];rintro rfl;have:=Q.inj i id _ _ L A X f rfl;subst this; rw [V] at hi; cases hi
     cases h
    cases h
   cases h
  cases h
 ·-- an element of a row
  rename_i id i o;split at h
  ·rename_i tb s S hH;split at h
   ·rename_i x' q B hof hfz;cases h;simp only [Bool.and_eq_true,Bool.not_eq_true',<- Bool.not_eq_true,bw] at B;obtain ⟨⟨V,hlen⟩,hnm⟩:=B;have hlen:=afL hlen;obtain ⟨O,k1,k2,k3,k4,k5,k6,k7,k8⟩:=pO hfz Q hf;obtain ⟨g,cap,len,z,Z,h3,rfl⟩:=ha;have J:=bM hH aa;rcases bE Q hH with ⟨h0,_⟩ | ⟨L,cap',c,sp,h4,h5,h6,h7,h8,h9⟩
    ·rw [h0] at Z; cases Z
    rw [h4] at Z; cases Z;have Y:=dD Q hH;have hxi:S[i]? = some (S.getD i (au s)):=oe h3;have hcl:c.length=S.length*s.size:=by rw [<- h6.length,bU]
    have hmul:(i+1)*s.size<=S.length*s.size:=afK _ h3;rw [ag8] at hmul;have hρ1:O[id]? = some (.row g cap S.length s.size):=by rw [k8 id hnm]; exact h4
    have hH1:q.2[id]? = some (.row tb s S):=k7 id _ hnm J aa
    have hel:All2 (Rd (cx G ρ w) ρ) (cellsOf s (S.getD i (au s))) ((c.drop (i*s.size)).take s.size):=by
     have:=(h6.drop (i*s.size)).take s.size;rw [nH hxi] at this;exact gH this
    have hell:=hel.length;rw [cY] at hell;have hnew:All2 (Qd (cx G O w)) (over (cellsOf s (S.getD i (au s))) o (Hj H b.cells)) (((c.drop (i*s.size)).take s.size).take o++us++((c.drop (i*s.size)).take s.size).drop (o+us.length)):=by
     have hvl:(Hj H b.cells).length=us.length:=by
      rw [<- hul];generalize b.cells=l;induction l with
      | nil=>rfl
      | cons a l ih=>simp [Hj,ih]
     unfold over;rw [hvl];have hq:All2 (Qd (cx G O w)) (cellsOf s (S.getD i (au s))) ((c.drop (i*s.size)).take s.size):=hel.imp fun a v h hp=>((gU hp).1 h).carry k2;exact ((hq.take o).append (k6 _ _ (fun j hj=>hj) U)).append (hq.drop _)
    have hsp:=aK hof hnew;have hcur:c.take (i*s.size+o)++us++c.drop (i*s.size+o+us.length)=c.take (i*s.size)++(((c.drop (i*s.size)).take s.size).take o++us++((c.drop (i*s.size)).take s.size).drop (o+us.length))++c.drop ((i+1)*s.size):=by
     have e1:c.take (i*s.size+o)=c.take (i*s.size)++((c.drop (i*s.size)).take s.size).take o:=by
      rw [ai3,afR aE,List.take_add]
     have e2:c.drop (i*s.size+o+us.length)=((c.drop (i*s.size)).take s.size).drop (o+us.length)++c.drop ((i+1)*s.size):=by
      rw [List.drop_take,af5,ag8,Nat.one_mul];have:i*s.size+(o+us.length)=i*s.size+o+us.length:=by omega
      rw [this];have e3:c.drop (i*s.size+s.size)=(c.drop (i*s.size+o+us.length)).drop (s.size - (o+us.length)):=by
       rw [af5]; congr 1; omega
      rw [e3,List.take_append_drop]
     rw [e1,e2];simp only [List.append_assoc]
    have d:=Kp.setRow w g ((c++sp).take (i*s.size+o)++us++(c++sp).drop (i*s.size+o+us.length)).toArray;have htk:(c++sp).take (i*s.size+o)++us++(c++sp).drop (i*s.size+o+us.length)=(c.take (i*s.size+o)++us++c.drop (i*s.size+o+us.length))++sp:=by
     rw [afQ aE,List.drop_append_of_le_length aE];simp only [List.append_assoc]
    refine ⟨_,R.store hx hy h5 hus h1 K (by rw [List.length_append]; omega),O,?_⟩;have N:(w.setRow g ((c++sp).take (i*s.size+o)++us++(c++sp).drop (i*s.size+o+us.length)).toArray).heap[g]? = some (.cells ((c++sp).take (i*s.size+o)++us++(c++sp).drop (i*s.size+o+us.length)).toArray tb (0,0)):=afU w g _ _ tb _ h5;generalize hw':w.setRow g ((c++sp).take (i*s.size+o)++us++(c++sp).drop (i*s.size+o+us.length)).toArray=w' at d N;rw [htk,hcur] at N;have D:Ext O w O w':=⟨d.os,d.tape,d.output,d.size,fun b hb e=>⟨e,d.block b hb (by
     simp only [acr];rintro rfl;exact e ⟨id,_,hρ1,rfl⟩)⟩⟩
    have I:=D.le k3.lo;have k:=k3.put hH1 hρ1 rfl d (o':=.row tb s (S.set i x')) ⟨Y.1,by rw [acF]; exact Y.2,.inr ⟨g,cap,_,sp,by rw [acF],N,by
     rw [AI hxi];have f1:Pds (cx G ρ w) ((S.take i).flatMap (cellsOf s)) (c.take (i*s.size)):=bC h6 i;have f2:Pds (cx G ρ w) ((S.drop (i+1)).flatMap (cellsOf s)) (c.drop ((i+1)*s.size)):=bV h6 (i+1);exact (((f1.carry k2).append hsp).append (f2.carry k2)).carry I,by
     have e4:((c.drop (i*s.size)).take s.size).length=s.size:=by rw [List.length_take,List.length_drop]; omega
     rw [ag8,Nat.one_mul];simp only [List.length_append,List.length_take,List.length_drop] at e4 h7 ⊢;omega,by rw [acF]; exact h8,h9⟩⟩
    refine ⟨k1.trans ⟨k.2,fun _ _ _ h=>h,fun j r' hj A=>⟨A,fun L f=>d.block L (k3.bnd j r' L A f).2.1 ?_⟩,fun _ _ h=>h⟩,k.1,k4.carry I (ky.refl _),trivial,aa⟩;simp only [acr];rintro rfl;have:=k3.inj j id _ _ L A hρ1 f rfl;subst this; rw [V] at hj; cases hj
   cases h
  cases h
 cases h
end
section
variable {P:Program} {T:List (Nat × TI)} {G:Gl} {O:bP} {n:Nat} {F:Fr} {w:World} {x y:Operand} {ty t:TypeId} {ρ:List RE} {H:AH} {fr:AFr} {ro:Lv}
theorem po {c o:Cx} {s:Sh}:∀ {l:List (Nat × TV1)} {pv:List (Nat × Value)} {k:Nat} {d:List (den s)},rN s H l k=some d->All2 (fun p q=>p.1=q.1/\di c ρ p.2 q.2) l pv->(∀ p ∈ l,∀ f,All2 (Rd c ρ) p.2.cells f->All2 (Qd o) (Hj H p.2.cells) f) ->
  ∃ a:List (List Value),pv.map (fun p=>(p.1,p.2.cells.toList))=(List.range' k a.length).zip a/\(∀ z ∈ a,z.length=s.size)/\a.length=d.length/\Pds o (d.flatMap (cellsOf s)) a.flatten
 | [],_,k,d,h,g,_=>by
  cases h; cases g;exact ⟨[],rfl,aa,rfl,.nil⟩
 | (i,v) :: r,_,k,d,h,g,A=>by
  cases g with
  | @cons _ q _ S B C=>
  obtain ⟨U,u⟩:=q;obtain ⟨e,D⟩:=B;simp only at e; subst e;simp only [rN] at h;split at h
  ·rename_i x l I J K;cases h;have:=aaF I;subst this;obtain ⟨f,m,b⟩:=di.cells D;have j:=aK J (A (i,v) aa f b);obtain ⟨a,L,V,N,Q⟩:=po K C fun p g=>A p (by simp [g]);refine ⟨f :: a,?_,?_,by simp [N],?_⟩
   ·simp only [afV,List.length_cons,ai4,List.zip_cons_cons,L,m]
   ·intro z hvs;rcases acw.1 hvs with rfl | hvs
    ·rw [<- j.length,cY]
    grind
   rw [List.flatMap_cons,List.flatten_cons];exact j.append Q
  cases h
theorem tk:∀ {l:List (Nat × TV1)} {p:Nat × TV1} {i:Nat},p ∈ l->i ∈ eU p.2.cells->i ∈ Ds l
 | (j,v) :: r,p,i,h,a=>by
  simp only [Ds,acq];rcases acw.1 h with rfl | h
  ·grind
  exact .inr (tk h a)
variable {w':World} {e:TypeId}
def qY (f:Rep G ρ H w) (l:FrR (cx G ρ w) ρ fr F) (h:Kp [] w w') {s:Sh} {xs:List (den s)} {cells sp:List Value} {cap:Nat} (k:w'.heap[w.heap.size]? = some (.cells (List.toArray (cells++sp)) e (0,0))) (m:G.shp e=some s) (o:xs.length*s.bytes<=140737488355328) (p:Pds (cx G ρ w) (xs.flatMap (cellsOf s)) cells) (q:(cells++sp).length=cap*s.size) (u:xs.length<=cap) (v:cap<=maxLen) :
  ∃ a,Stp ro ρ w a w' /\ Rep G a (H++[.row e s xs]) w' /\ FrR (cx G a w') a fr F/\Rd (cx G a w') a (.own H.length) (.slice (some ⟨w.heap.size,0,none⟩) xs.length cap):=by
 have j:w.heap.size<w'.heap.size:=(af1.1 k).1;have b:Ext ρ w (ρ++[.row w.heap.size cap xs.length s.size]) w':=Ext.app h fun g c=>by cases c; exact Nat.le_refl _
 have d:=b.le f.lo;refine ⟨ρ++[.row w.heap.size cap xs.length s.size],Stp.app f h (fun g c=>by cases c; exact Nat.le_refl _),f.app h (fun g c=>by cases c; exact ⟨Nat.le_refl _,j⟩) ⟨m,o,.inr ⟨w.heap.size,cap,cells,sp,rfl,k,p.carry d,q,u,v⟩⟩,l.carry d (gk _ _),.inl ⟨w.heap.size,cap,xs.length,s.size,by rw [f.obj.length]; simp,rfl⟩⟩
def Le (f:Rep G ρ H w) (l:FrR (cx G ρ w) ρ fr F) (h:Kp [] w w') {s:Sh} (m:G.shp e=some s) {k:List (den s)} (o:k=[]) (a:Option Addr) :
  ∃ b,Stp ro ρ w b w' /\ Rep G b (H++[.row e s k]) w' /\ FrR (cx G b w') b fr F/\Rd (cx G b w') b (.own H.length) (.slice a 0 0):=by
 subst o;have c:Ext ρ w (ρ++[.emp]) w':=Ext.app h fun g d=>by cases d
 have j:=c.le f.lo;exact ⟨ρ++[.emp],Stp.app f h (fun g d=>by cases d),f.app h (fun g d=>by cases d) ⟨m,aa,.inl ⟨rfl,rfl⟩⟩,l.carry j (gk _ _),.inr ⟨by rw [f.obj.length]; simp,a,rfl⟩⟩
variable {z:List Value} {b:Nat}
def Fv {s:Nat} (h:(P.info? e).map (fun i=>(i.zero.map Value.cells,i.size,i.bytes))=some (some z.toArray,s,b)):((P.info? e).bind (·.zero)).map Value.cells=some z.toArray:=by
 cases a:P.info? e with
 | none=>simp [a] at h
 | some i=>simp [a] at h ⊢; exact h.1
def Ax {s:Nat} (r:P.underlying t=some (.slice e)) (hi':(P.info? e).map (fun i=>(i.zero.map Value.cells,i.size,i.bytes))=some (some z.toArray,s,b)) (hz:z.length=s) (hs0:0<s)
  {v:Value} {m k cy:Nat} {c d:List Value} {A:Option Addr} {lo:Nat} (hlo:lo<=w.heap.size) (N:(m=0/\c=[]/\∃ a,v = .slice a 0 0)\/w.ownsRow lo e s v m c) (U:d.length=k*s) (V:∀ u ∈ d,u.oneCell' = true) (B:k=0\/∃ ad,A=some ad/\CellsAt w ad d)
  (l:(m+k)*b<=140737488355328) (I:m+k<=9223372036854775807) :
  ∃ q w',(Builtin.append_ #[t,t] ty #[v,.slice A k cy]).run P w = .ok q w' /\ ((m+k=0/\∃ a,q = .slice a 0 0)\/w'.ownsRow lo e s q (m+k) (c++d))/\Kp (ob v) w w' /\ (∀ g ∈ ob q,g ∈ ob v\/(g=w.heap.size/\w.heap.size<w'.heap.size)):=by
 obtain ⟨i,zv,x,W,hzc,X,J⟩:=re hi';have hzs:zv.cells.size=s:=by rw [hzc]; simpa using hz
 have y:A=none->k=0:=by
  intro hA;rcases B with h | ⟨ad',h,hc⟩
  ·exact h
  rw [hA] at h; cases h
 have Y:∀ ad,A=some ad->∀ j u,d[j]? = some u->w.cell? (ad.add j)=some u:=by
  intro ad hA j u hu;rcases B with h | ⟨ad',h,hc⟩
  ·subst h;have:d=[]:=acu aE;subst this; simp at hu
  rw [hA] at h; cases h; exact hc j u hu
 have C:∀ (v:Value) (n:Nat) (c:List Value),w.ownsRow lo e s v n c->n+k<=9223372036854775807->(n+k)*b<=140737488355328 ->
   ∃ q w',(Builtin.append_ #[t,t] ty #[v,.slice A k cy]).run P w = .ok q w' /\ w'.ownsRow lo e s q (n+k) (c++d)/\w.grownBy w' v.ownBlock /\
    (q.ownBlock=v.ownBlock\/q.ownBlock=some w.heap.size)/\(q.ownBlock=some w.heap.size->w.heap.size<w'.heap.size):=by
  intro v n c f I l;rcases A with _ | ad
  ·have L:=y rfl;subst L;have Z:d=[]:=acu aE;subst Z;refine ⟨v,w,?_,by simpa using f,⟨rfl,rfl,rfl,Nat.le_refl _,fun _ _ _=>rfl⟩,.inl rfl,fun h=>?_⟩
   ·rcases f.2 with ⟨rfl,F⟩ | ⟨g,G,H,rfl,_,_,hnc,_⟩
    ·simp [Builtin.append_,run_underlying r,sizeOf,typeInfo,x,Builtin.lenOf,Builtin.firstCells]
    simp [Builtin.append_,run_underlying r,sizeOf,typeInfo,x,Builtin.lenOf,Builtin.firstCells,hnc,storeCells]
   exact absurd (f.lt _ h).2 aE
  obtain ⟨q,w',p,Q,D,_,h5⟩:=run_append_own_at (P:=P) w lo t ty e i zv s b r x W X J hzs aE v n c f ad k cy d U (Y ad rfl) V (by simpa [maxLen] using I) l hlo;exact ⟨q,w',p,Q,D,h5,fun h=>(Q.lt _ h).2⟩
 by_cases K:∃ a,v = .slice a 0 0
 ·obtain ⟨O,rfl⟩:=K;have hm0:m=0/\c=[]:=by
   rcases N with ⟨h1,Q,_⟩ | h1
   ·exact ⟨h1,Q⟩
   have hm:m=0:=by
    rcases h1.2 with ⟨_,F⟩ | ⟨g,G,H,hv,_,_,hn,_⟩
    ·exact F
    injection hv with _ e1 _; exact e1.symm
   refine ⟨hm,acu ?_⟩;rw [h1.1,hm,ajp]
  obtain ⟨rfl,rfl⟩:=hm0;by_cases L:k=0
  ·subst L;have Z:d=[]:=acu aE;subst Z;refine ⟨.slice O 0 0,w,?_,.inl ⟨rfl,O,rfl⟩,(Kp.refl w).sub aa,fun g S=>.inl S⟩;cases O <;> cases A <;> simp [Builtin.append_,run_underlying r,sizeOf,typeInfo,x,Builtin.lenOf,Builtin.firstCells,storeCells,loadCells,loadCellsFrom]
  obtain ⟨ad,rfl⟩:∃ ad,A=some ad:=by
   cases A with
   | none=>exact absurd (y rfl) L
   | some ad=>exact ⟨ad,rfl⟩
  simp only [acC] at I l;obtain ⟨q,w',p,Q,D,h5,h6⟩:=C (.slice none 0 0) 0 [] (World.ownsRow_nil _ _ _ _) (by simpa using I) (by simpa using l);have heq:(Builtin.append_ #[t,t] ty #[.slice O 0 0,.slice (some ad) k cy]).run P w=(Builtin.append_ #[t,t] ty #[.slice none 0 0,.slice (some ad) k cy]).run P w:=by
   cases O with
   | none=>rfl
   | some b0=>
    rw [run_append_nil (P:=P) w t ty e i zv r x W ad k cy d (by rw [U,X]) (Y ad rfl) aE aE (by rw [J]; omega)];rw [run_append_grow (P:=P) w t ty e i zv r x W b0 0 0 [] aa aa ad k cy d (by rw [U,X]) (Y ad rfl) aE aE (by
     rw [J]; exact ajA aE (by simpa using l))]
    simp
  refine ⟨q,w',heq.trans p,.inr (by simpa using Q),⟨D.os,D.tape,D.output,D.size,fun b hb _=>D.block b hb (by simp [Value.ownBlock])⟩,fun g S=>?_⟩;have o:=xc S;rcases h5 with h5 | h5
  ·rw [h5] at o; cases o
  exact .inr ⟨by rw [h5] at o; exact (acD o).symm,h6 h5⟩
 have f:w.ownsRow lo e s v m c:=by
  rcases N with ⟨_,_,h⟩ | h1
  ·exact absurd h K
  exact h1
 obtain ⟨q,w',p,Q,D,h5,h6⟩:=C v m c f I l;have T:∀ g,v.ownBlock=some g->g ∈ ob v:=by
  intro g S;rcases f.2 with ⟨rfl,F⟩ | ⟨g',G,H,rfl,_,_,hn,_⟩
  ·cases S
  cases S;simp only [ob];rw [if_neg]
  ·simp
  intro F; subst F; exact K ⟨_,by rw [show m=0 by omega]⟩
 refine ⟨q,w',p,.inr Q,⟨D.os,D.tape,D.output,D.size,fun b hb hn=>D.block b hb fun he=>hn (T b he.symm)⟩,fun g S=>?_⟩;have o:=xc S;rcases h5 with h5 | h5
 ·rw [h5] at o; exact .inl (T g o)
 exact .inr ⟨by rw [h5] at o; exact (acD o).symm,h6 h5⟩
end
end Go.Proofs.YticbaadnibdbkaaGreat
