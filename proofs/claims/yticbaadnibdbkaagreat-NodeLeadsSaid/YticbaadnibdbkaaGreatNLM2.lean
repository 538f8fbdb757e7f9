/- What leads to the law, part 2. Conditions: each lemma's own. -/
import Derived.DeepKeys
import Derived.Laws.CopyRow
import Derived.Laws.IdiomStrings
import Derived.MapFrom
import Derived.MapKept
import Derived.Test.YticbaadnibdbkaaGreatNLM1
set_option linter.unusedVariables false
set_option linter.unusedSimpArgs false
set_option maxHeartbeats 2000000
set_option linter.defProp false
namespace Go.Proofs.YticbaadnibdbkaaGreat
open Go.RowKit
def ad5:=@Nat.lt_of_le_of_lt
def agY:=@Nat.div_le_self
def adm:=@Int.toNat_natCast
def adl:=@Nat.le_of_ble_eq_true
def ahj:=@Nat.or_lt_two_pow
def ab9:=@Int.eq_ofNat_of_zero_le
def ahD:=@Int.le_trans
def ab3:=@List.mem_singleton_self
def agh:=@Nat.mod_lt
def ahE:=@Nat.le_of_lt
def adk:=@Nat.mul_le_mul_right
def ahk:=@Nat.add_zero
def adg:=@Option.map_eq_some_iff
def ada:=@List.mem_of_getElem?
def agH:=@List.forall_mem_cons
def adV:=@List.getElem_mem
def agi:=@Go.heap_alloc_new
def ahA:=@dif_pos
def ac6:=@of_decide_eq_true
def ahx:=@Nat.zero_mul
def ahF:=@List.drop_zero
def agl:=@List.drop_drop
def agO:=@List.getElem?_cons_succ
def aht:=@Nat.mul_one
def ade:=@List.append_nil
def agt:=@Array.ext'
def ahq:=@Go.Call.mk.injEq
def adh:=@List.getElem?_set_self
def ad4:=@Go.setRow_heap
def ahG:=@List.take_zero
def ahp:=@List.nil_append
def aeu:=@List.drop_of_length_le
def ahH:=@List.take_take
def adA:=@Nat.min_eq_left
def ahI:=@Go.growslice_fits
def zB:AV->Value->Bool
 | .int n,.int .i64 m=>decide (n=m) && decide (n=0)
 | .u8 b,.int .u8 m=>decide (m=0) && decide (b=0)
 | .u64 n,.int .u64 m=>decide (m=0) && decide (n=0)
 | .bool e,.bool false=>!e.val
 | .str ⟨[]⟩,.string s=>s.data.toList.isEmpty
 | .em true,.slice none 0 0=>true
 | .fz _ xs,.slice none 0 0=>xs.isEmpty
 | .li _ xs,.slice none 0 0=>xs.isEmpty
 | .np,.pointer none=>true
 | .nf,.nilFunc=>true
 | .dead,v=>v.oneCell'
 | .xx (.er true) [],.nilIface=>true
 | .xx (.w n) [],.int .u32 m=>decide (m=0) && decide (n=0)
 | _,_=>false
def A_:List AV->List Value->Bool
 | [],[]=>true
 | a :: r,v :: vs=>zB a v && A_ r vs
 | _,_=>false
def P_ (P:Program) (g:TypeId->Option (List LK)):List Go.Field->Nat->Option (List LK)
 | [],_=>some []
 | f :: r,o=>match g f.type with
  | some ks=>match decide (f.offset=o) && decide (P.cellsOf f.type=ks.length) && (f.name != "_"),P_ P g r (o+ks.length) with
   | true,some l=>some (ks++l)
   | _,_=>none
  | none=>none
def JD (P:Program):Nat->TypeId->Option (List LK)
 | 0,_=>none
 | d+1,t=>match P.underlying t with
  | some (.int k)=>some [.i k]
  | some .bool=>some [.b]
  | some .string=>some [.s]
  | some (.struct F)=>match P_ P (JD P d) F.toList 0 with
   | some ks=>match decide (P.cellsOf t=ks.length) with
    | true=>some ks
    | false=>none
   | none=>none
  | _=>none
def eqB (P:Program) (t:TypeId) (ks:List LK):Bool:=decide (JD P 8 t=some ks) && P.keyTypeAt 8 t && !P.eqGuardType P.depth t
def EqT (P:Program) (t:TypeId) (z:List AV):Prop:=∀ ks,Tm z=some ks->eqB P t ks=true
def afZ (P:Program) (F:Array Go.Field) (t:TypeId):Prop:=∀ i,Kf t i VL=true->∃ f d,F[i]? = some f/\P.underlying f.type=some d/\jO d=false
def aaV (P:Program) (shp:TypeId->Option Sh) (t:TypeId) (ti:TI):Prop:=
 ((P.info? t).map (·.size)=some ti.size/\∃ zs:List Value,((P.info? t).bind (·.zero)).map Value.cells=some zs.toArray/\A_ ti.zero zs=true) /\
 match ti.k with
 | .i k=>P.underlying t=some (.int k)
 | .bool=>P.underlying t=some .bool
 | .str=>P.underlying t=some .string
 | .sl e so=>P.underlying t=some (.slice e)/\∀ s,so=some s->shp e=some s/\(∃ z:List Value,(P.info? e).map (fun i=>(i.zero.map Value.cells,i.size,i.bytes))=some (some z.toArray,s.size,s.bytes)/\A_ (cellsOf s (ao s)) z=true)/\(s = .u8->P.underlying e=some (.int .u8)/\(P.info? e).bind (·.zero)=some (.int .u8 0))
 | .st fs=>∃ F:Array Go.Field,P.underlying t=some (.struct F)/\F.toList.mapM (fun f=>(P.info? f.type).map fun i=>(f.offset,i.size))=some fs/\(∀ q ∈ fs,0<q.2)/\EqT P t ti.zero/\afZ P F t
 | .ar n e=>P.underlying t=some (.array n e)
 | .ifc=>P.underlying t=some (.interface (P.methodsAt t))
 | .ptr=>∃ e,P.underlying t=some (.pointer e)
 | .ms k e=>P.underlying t=some (.map k e)/\P.underlying k=some .string/\(P.info? e).bind (·.zero)=some (.int .i64 0)
 | .mg k e z=>P.underlying t=some (.map k e)/\P.underlying k=some (.int .i64)/\(P.info? e).bind (·.zero)=some (.agg (z.map KC.val).toArray)
 | .mp k e so=>P.underlying t=some (.map k e)/\P.underlying k=some (.int .i64)/\(∀ s,so=some s->∃ z zs,(P.info? e).bind (·.zero)=some z/\A_ (cellsOf s (ao s)) zs=true/\((s.oc=true/\z = .agg zs.toArray)\/(s.oc=false/\zs=[z])))/\(so=none->(P.info? e).bind (·.zero)=some .nilFunc)
 | _=>∃ d,P.underlying t=some d/\jO d=false
def aY (P:Program) (shp:TypeId->Option Sh) (T:List (Nat × TI)):Prop:=∀ t ti,aQ T t=some ti->aaV P shp t ti
section
variable {c:Cx} {ρ:List RE}
theorem Lf {a:UInt8} {b:Nat}:Pd c (.u8 (UInt8.ofNat (a.toNat / 2 ^ b))) (.int .u8 ((a.toNat / 2 ^ b:Nat):Int)):=by
 have e:a.toNat / 2 ^ b=(UInt8.ofNat (a.toNat / 2 ^ b)).toNat:=by
  rw [UInt8.toNat_ofNat',Nat.mod_eq_of_lt (ad5 (agY _ _) a.toNat_lt)]
 rw [show ((a.toNat / 2 ^ b:Nat):Int)=((UInt8.ofNat (a.toNat / 2 ^ b)).toNat:Int) from congrArg _ e];exact Pd.u8
variable {a:AV}
theorem Ub {v:Value} (h:zB a v=true):Rd c ρ a v:=by
 unfold zB at h;split at h
 ·simp only [Bool.and_eq_true,decide_eq_true_eq] at h;obtain ⟨rfl,rfl⟩:=h;exact Pd.int ⟨by omega,by omega⟩
 ·simp only [Bool.and_eq_true,decide_eq_true_eq] at h;obtain ⟨rfl,rfl⟩:=h;exact Pd.u8
 ·simp only [Bool.and_eq_true,decide_eq_true_eq] at h;obtain ⟨rfl,rfl⟩:=h;exact Pd.u64 aK
 ·rename_i e;have:e.val=false:=by simpa using h
  rw [<- this];exact Pd.bool
 ·rename_i s;have:s=⟨#[]⟩:=by
   have h1:s.data.toList=[]:=by simpa using h
   have h2:s.data = #[]:=by
    grind
   cases s; simp_all
  subst this;exact Pd.str (s:=⟨[]⟩) (by simp)
 ·exact Pd.em rfl
 ·rename_i s xs;have:xs=[]:=by simpa using h
  subst this;exact Pd.fz (xs:=([]:List (den s))) (cells:=[]) (ac5 _) (by simp [maxLen]) (by simp) .nil (.inl rfl)
 ·rename_i b xs;have:xs=[]:=by simpa using h
  subst this;exact Pd.li (nw:=b) (xs:=[]) (k:=0) (ac5 _) (afV _) (by simp) (by simp) (.inl rfl)
 ·rfl
 ·rfl
 ·exact h
 ·exact ⟨[],.nil,rfl,.inl ⟨rfl,rfl⟩⟩
 ·simp only [Bool.and_eq_true,decide_eq_true_eq] at h;obtain ⟨rfl,rfl⟩:=h;exact ⟨[],.nil,rfl,by decide,rfl⟩
 cases h
theorem jk:∀ {asx:List AV} {vs:List Value},A_ asx vs=true->All2 (Rd c ρ) asx vs
 | [],[],_=>.nil
 | a :: r,v :: vs,h=>by
  simp only [A_,Bool.and_eq_true] at h;exact .cons (Ub h.1) (jk h.2)
theorem Wz {v:Value} (h:cAV v=some a):Rd c ρ a v:=by
 unfold cAV at h;split at h
 ·rename_i n;cases hb:(decide (-9223372036854775808<=n) && decide (n<=9223372036854775807)) <;> rw [hb] at h
  ·cases h
  cases h;simp only [Bool.and_eq_true,decide_eq_true_eq] at hb;exact Pd.int hb
 ·rename_i n;cases hb:(decide (0<=n) && decide (n<256)) <;> rw [hb] at h
  ·cases h
  cases h;simp only [Bool.and_eq_true,decide_eq_true_eq] at hb;have e:n=((UInt8.ofNat n.toNat).toNat:Int):=by rw [UInt8.toNat_ofNat']; omega
  show Pd c _ _;rw [e,adm];have e2:UInt8.ofNat (UInt8.ofNat n.toNat).toNat=UInt8.ofNat n.toNat:=UInt8.ofNat_toNat;rw [e2];exact Pd.u8
 ·rename_i n;cases hb:(decide (0<=n) && decide (n<18446744073709551616)) <;> rw [hb] at h
  ·cases h
  cases h;simp only [Bool.and_eq_true,decide_eq_true_eq] at hb;have e:n=(n.toNat:Int):=by omega
  show Pd c _ _;rw [e,adm];exact Pd.u64 aK
 ·rename_i n;cases hb:(decide (0<=n) && decide (n<4294967296)) <;> rw [hb] at h
  ·cases h
  cases h;simp only [Bool.and_eq_true,decide_eq_true_eq] at hb;have e:((n.toNat:Nat):Int)=n:=by omega
  exact ⟨[],.nil,rfl,by omega,by rw [e]⟩
 ·cases h; exact Pd.bool (e:=.lit _)
 ·rename_i s;cases hb:Nat.ble s.data.toList.length 140737488355328 <;> rw [hb] at h
  ·cases h
  cases h;have:=adl hb;have e:=Pd.str (c:=c) (s:=⟨s.data.toList⟩) this;have e2:(⟨s.data.toList⟩:Str).val = .string s:=by simp [Str.val]
  rw [e2] at e;exact e
 ·cases h; exact Pd.em rfl
 ·cases h; rfl
 ·cases h; exact ⟨[],.nil,rfl,.inl ⟨rfl,rfl⟩⟩
 ·cases h; rfl
 cases h
variable {tv:TV} {F:Fr}
theorem ew {fr:AFr} (h:FrR c ρ fr F) {i:Nat} (hx:lookA fr i=some tv):∃ v,look F i=some v/\Rt c ρ tv v:=by
 induction h with
 | nil=>cases hx
 | @cons p q fr F hp _ ih=>
  obtain ⟨i2,v2⟩:=q;unfold lookA at hx;unfold look;grind
theorem aq {fr:AFr} (h:FrR c ρ fr F) {x:Operand} (hx:cP fr x=some tv):∃ v,ev F x=some v/\Rt c ρ tv v:=by
 cases x with
 | tmp i=>exact ew h hx
 | const v=>
  simp only [cP] at hx;split at hx
  ·rename_i a ha;cases hx;exact ⟨v,rfl,Wz ha⟩
  cases hx
 | global g=>cases hx
 | func f=>cases hx; exact ⟨_,rfl,[],[],.nil,.nil,rfl⟩
theorem kW {fr:AFr} {F:Fr} (h:FrR c ρ fr F):∀ {xs:List Operand} {ts:List TV1},BF fr xs=some ts->∃ vs,OB F xs=some vs/\All2 (cO c ρ) ts vs
 | [],ts,hx=>by cases hx; exact ⟨[],rfl,.nil⟩
 | x :: r,ts,hx=>by
  simp only [BF] at hx;split at hx
  ·rename_i a l ha hl;cases hx;obtain ⟨v,h1,h2⟩:=aq h ha;obtain ⟨vs,h3,h4⟩:=kW h hl;exact ⟨v :: vs,by simp only [OB,h1,h3],.cons h2 h4⟩
  cases hx
theorem jB {fr:AFr} {F:Fr} (h:FrR c ρ fr F):∀ {xs:List (Nat × Operand)} {ts:List (Nat × TV1)},wJ fr xs=some ts->∃ vs,Ju F xs=some vs/\All2 (fun p q=>p.1=q.1/\cO c ρ p.2 q.2) ts vs
 | [],ts,hx=>by cases hx; exact ⟨[],rfl,.nil⟩
 | (i,x) :: r,ts,hx=>by
  simp only [wJ] at hx;split at hx
  ·rename_i a l ha hl;cases hx;obtain ⟨v,h1,h2⟩:=aq h ha;obtain ⟨vs,h3,h4⟩:=jB h hl;exact ⟨(i,v) :: vs,by simp only [Ju,h1,h3],.cons ⟨rfl,h2⟩ h4⟩
  cases hx
end
section
variable {P:Program} {n:Nat} {fr:Fr} {w:World} {x y:Operand} {ty t t':TypeId}
theorem uS (z:Int) (h:0<=z):IntKind.u64.wrap z=((z.toNat % 18446744073709551616:Nat):Int):=by
 simp only [IntKind.wrap,IntKind.bits,IntKind.signed];simp;omega
variable {b a:Nat}
theorem R.SF (hx:ev fr x=some (.int .u64 (a:Int))) (hy:ev fr y=some (.int .u64 (b:Int))):aD P n fr w (.binOp .add t x y t') ty (.int .u64 (((a+b) % 18446744073709551616:Nat):Int)) w:=by
 have:=R.Qx (P:=P) (n:=n) (w:=w) (ty:=ty) (t:=t) (t':=t') hx hy;rw [uS _ (by omega)] at this;grind
variable {kc:IntKind}
theorem R.DG (hx:ev fr x=some (.int .u64 (a:Int))) (hy:ev fr y=some (.int kc (b:Int))) (hb:b<=64):aD P n fr w (.binOp .shl t x y t') ty (.int .u64 (((a*2 ^ b) % 18446744073709551616:Nat):Int)) w:=fun _ _ _ _ _ ha=>by
 have e:IntKind.u64.wrap ((a:Int)*2 ^ b)=(((a*2 ^ b) % 18446744073709551616:Nat):Int):=by
  rw [show (a:Int)*2 ^ b=((a*2 ^ b:Nat):Int) by simp,uS _ (Int.natCast_nonneg _),adm]
 have e2:Op.shift .shl .u64 (a:Int) kc (b:Int)=pure (.int .u64 (((a*2 ^ b) % 18446744073709551616:Nat):Int)):=by
  simp_all
 simp only [execOp,ha.ev hx,ha.ev hy,binOp_shl,e2];rfl
theorem R.Zt (hx:ev fr x=some (.int .u64 (a:Int))) (hy:ev fr y=some (.int .u64 (b:Int))) (h1:a<18446744073709551616) (h2:b<18446744073709551616):aD P n fr w (.binOp .or t x y t') ty (.int .u64 ((a ||| b:Nat):Int)) w:=fun _ _ _ _ _ ha=>by
 have e:bits .or .u64 (a:Int) (b:Int)=((a ||| b:Nat):Int):=by
  have h3:∀ c:Nat,(BitVec.ofInt 64 (c:Int))=BitVec.ofNat 64 c:=fun c=>by rw [BitVec.ofInt_natCast]
  show IntKind.u64.wrap ((BitVec.ofInt 64 (a:Int) ||| BitVec.ofInt 64 (b:Int)).toNat:Int)=_;rw [h3,h3,BitVec.toNat_or,BitVec.toNat_ofNat,BitVec.toNat_ofNat,Nat.mod_eq_of_lt (by simpa using h1),Nat.mod_eq_of_lt (by simpa using h2)];exact wrap_u64 (ahj (n:=64) h1 h2)
 simp [execOp,ha.ev hx,ha.ev hy,eqGuard_or,binOp_or,intBits_or,e]
variable {b a:Int}
theorem CV (h:0<=b) (hI:I64 b):0<=Hr a b/\Hr a b<=b:=by
 obtain ⟨b,rfl⟩:=ab9 h;unfold Hr;refine ⟨Int.natCast_nonneg _,?_⟩;rw [BitVec.toNat_and,BitVec.ofInt_natCast,BitVec.toNat_ofNat,Nat.mod_eq_of_lt (by have:=hI.2; omega)];exact Int.ofNat_le.2 Nat.and_le_right
theorem R.ahc (hx:ev fr x=some (.int .i64 a)) (hy:ev fr y=some (.int .i64 b)) (h0:0<=b) (hI:I64 b):aD P n fr w (.binOp .and t x y t') ty (.int .i64 (Hr a b)) w:=fun _ _ _ _ _ ha=>by
 have e:bits .and .i64 a b=Hr a b:=by
  have h:=CV (a:=a) h0 hI;have:=hI.2;exact I64.wrap ⟨ahD (by decide) h.1,ahD h.2 this⟩
 simp [execOp,ha.ev hx,ha.ev hy,eqGuard_and,binOp_and,intBits_and,e]
theorem R.orI (hx:ev fr x=some (.int .i64 a)) (hy:ev fr y=some (.int .i64 b)) (h0:0<=a) (h1:0<=b) (ia:I64 a) (ib:I64 b):aD P n fr w (.binOp .or t x y t') ty (.int .i64 (To a b)) w/\I64 (To a b):=by
 obtain ⟨a,rfl⟩:=ab9 h0;obtain ⟨b,rfl⟩:=ab9 h1;have ha2:a<2 ^ 63:=by have:=ia.2; omega
 have hb2:b<2 ^ 63:=by have:=ib.2; omega
 have hl:=ahj ha2 hb2;have hI:I64 (((a ||| b:Nat):Nat):Int):=⟨by omega,by omega⟩;have e:bits .or .i64 (a:Int) (b:Int)=((a ||| b:Nat):Int):=by
  have h3:∀ c:Nat,(BitVec.ofInt 64 (c:Int))=BitVec.ofNat 64 c:=fun c=>by rw [BitVec.ofInt_natCast]
  show IntKind.i64.wrap ((BitVec.ofInt 64 (a:Int) ||| BitVec.ofInt 64 (b:Int)).toNat:Int)=_;rw [h3,h3,BitVec.toNat_or,BitVec.toNat_ofNat,BitVec.toNat_ofNat,Nat.mod_eq_of_lt (by omega),Nat.mod_eq_of_lt (by omega)];exact hI.wrap
 have e2:To (a:Int) (b:Int)=((a ||| b:Nat):Int):=by unfold To; simp
 rw [e2];refine ⟨fun _ _ _ _ _ ha=>?_,hI⟩;simp [execOp,ha.ev hx,ha.ev hy,eqGuard_or,binOp_or,intBits_or,e]
theorem R.agp {b:Nat} (hx:ev fr x=some (.int .i64 a)) (hy:ev fr y=some (.int kc (b:Int))) (hb:b<=64) (hI:I64 (a*2 ^ b)):aD P n fr w (.binOp .shl t x y t') ty (.int .i64 (a*2 ^ b)) w:=fun _ _ _ _ _ ha=>by
 have e2:Op.shift .shl .i64 a kc (b:Int)=pure (.int .i64 (a*2 ^ b)):=by
  rw [shift_shl .i64 kc a (b:Int) (Int.natCast_nonneg b) (show (b:Int)<=((64:Nat):Int) by omega),adm,hI.wrap]
 simp only [execOp,ha.ev hx,ha.ev hy,binOp_shl,e2];rfl
theorem R.adY {a b:Str} (hx:ev fr x=some a.val) (hy:ev fr y=some b.val) (h:a.b.length+b.b.length<=140737488355328):aD P n fr w (.binOp .add t x y t') ty (Str.val ⟨a.b++b.b⟩) w:=fun _ _ _ _ _ ha=>by
 have e:∀ u v:List UInt8,(⟨u.toArray⟩:ByteArray)++⟨v.toArray⟩=⟨(u++v).toArray⟩:=fun u v=>by
  apply ByteArray.ext;simp_all
 have hs:∀ u:List UInt8,(⟨u.toArray⟩:ByteArray).size=u.length:=fun u=>by simp [ByteArray.size]
 have h1:¬ (((a.b.length+b.b.length:Nat):Int) > IntKind.i64.max):=by
  simp only [show IntKind.i64.max=9223372036854775807 from rfl]; omega
 simp only [execOp,ha.ev hx,ha.ev hy,Str.val,eqGuard_add,binOp,Op.stringOp];simp_all
theorem R.agM (hx:ev fr x=some (.int .i64 a)) (hy:ev fr y=some (.int .i64 b)) (h0:0<=a) (hb:0<b) (hI:I64 a):aD P n fr w (.binOp .quo t x y t') ty (.int .i64 (a.tdiv b)) w/\I64 (a.tdiv b):=by
 obtain ⟨a,rfl⟩:=ab9 h0;obtain ⟨b,rfl⟩:=ab9 (Int.le_of_lt hb);have e:(a:Int).tdiv b=((a / b:Nat):Int):=by rw [Int.tdiv_eq_ediv_of_nonneg (by omega)]; omega
 have hI':I64 ((a / b:Nat):Int):=by
  have:=agY a b;generalize a / b=q at *;unfold I64 at hI ⊢; omega
 exact ⟨R.Sm hx hy aK hI'.wrap,hI'⟩
theorem R.ag6 (hx:ev fr x=some (.int .i64 a)) (hy:ev fr y=some (.int .i64 b)) (h0:0<=a) (hb:0<b) (hI:I64 a):aD P n fr w (.binOp .rem t x y t') ty (.int .i64 (a.tmod b)) w/\I64 (a.tmod b):=by
 obtain ⟨a,rfl⟩:=ab9 h0;obtain ⟨b,rfl⟩:=ab9 (Int.le_of_lt hb);have e:(a:Int).tmod b=((a % b:Nat):Int):=by rw [Int.tmod_eq_emod_of_nonneg (by omega)]; omega
 have hI':I64 ((a % b:Nat):Int):=by
  have:=Nat.mod_le a b;unfold I64 at hI ⊢; omega
 exact ⟨R.QJ hx hy aK,hI'⟩
end
section
variable {P:Program} {T:List (Nat × TI)} {G:Gl} {n:Nat} {F:Fr} {w:World} {x y:Operand} {ty t t':TypeId} {c:Cx} {ρ:List RE}
variable {r:PR} {va:Value} {b a:AV} {op:BinOp}
theorem Kc (hT:aY P G.shp T) {vb:Value} (hb':NK T t a=true) (h:Yy op a b=some r) (hob:∀ p ∈ r.ob,p) (ha:Rd c ρ a va) (hb:Rd c ρ b vb) (hx:ev F x=some va) (hy:ev F y=some vb) :
  ∃ v,aD P n F w (.binOp op t x y t') ty v w/\Rt c ρ r.v v/\r.fc=[]:=by
 unfold Yy at h;split at h
 ·-- ints
  cases ha with | int ia=>
  cases hb with | int ib=>
  split at h <;> cases h
  ·exact ⟨_,R.lss hx hy,Pd.bool (e:=.lt _ _),rfl⟩
  ·exact ⟨_,R.leq hx hy,Pd.bool (e:=.le _ _),rfl⟩
  ·exact ⟨_,R.gtr hx hy,Pd.bool (e:=.lt _ _),rfl⟩
  ·exact ⟨_,R.geq hx hy,Pd.bool (e:=.le _ _),rfl⟩
  ·exact ⟨_,R.eql hx hy,Pd.bool (e:=.eq _ _),rfl⟩
  ·exact ⟨_,R.neq hx hy,Pd.bool (e:=.not (.eq _ _)),rfl⟩
  ·have h1:=hob _ (ab3 _); exact ⟨_,R.add hx hy h1,Pd.int h1,rfl⟩
  ·have h1:=hob _ (ab3 _); exact ⟨_,R.sub hx hy h1,Pd.int h1,rfl⟩
  ·have h1:=hob _ (ab3 _); exact ⟨_,R.mul hx hy h1,Pd.int h1,rfl⟩
  ·have h1:=hob _ (ac7); have h2:=hob _ (acb _ (ab3 _));have h3:=R.agM (P:=P) (n:=n) (w:=w) (ty:=ty) (t:=t) (t':=t') hx hy h1 h2 ia;exact ⟨_,h3.1,Pd.int h3.2,rfl⟩
  ·have h1:=hob _ (ac7); have h2:=hob _ (acb _ (ab3 _));have h3:=R.ag6 (P:=P) (n:=n) (w:=w) (ty:=ty) (t:=t) (t':=t') hx hy h1 h2 ia;exact ⟨_,h3.1,Pd.int h3.2,rfl⟩
  ·have h1:=hob _ (ab3 _);have h2:=fun z:Int=>CV (a:=z) h1 ib;have h3:=ib.2;exact ⟨_,R.ahc hx hy h1 ib,Pd.int ⟨ahD (by decide) (h2 _).1,ahD (h2 _).2 h3⟩,rfl⟩
  have h1:=hob _ (ac7); have h2:=hob _ (acb _ (ab3 _));have h3:=R.orI (P:=P) (n:=n) (w:=w) (ty:=ty) (t:=t) (t':=t') hx hy h1 h2 ia ib;exact ⟨_,h3.1,Pd.int h3.2,rfl⟩
 ·-- bytes
  cases ha with | u8=>
  cases hb with | u8=>
  split at h <;> cases h
  ·exact ⟨_,R.lss hx hy,Pd.bool (e:=.lt _ _),rfl⟩
  ·exact ⟨_,R.leq hx hy,Pd.bool (e:=.le _ _),rfl⟩
  ·exact ⟨_,R.gtr hx hy,Pd.bool (e:=.lt _ _),rfl⟩
  ·exact ⟨_,R.geq hx hy,Pd.bool (e:=.le _ _),rfl⟩
  ·exact ⟨_,R.eql hx hy,Pd.bool (e:=.eq _ _),rfl⟩
  ·exact ⟨_,R.neq hx hy,Pd.bool (e:=.not (.eq _ _)),rfl⟩
  ·exact ⟨_,R.abz hx hy,Pd.u8,rfl⟩
  ·exact ⟨_,R.ag4 hx hy,Pd.u8,rfl⟩
  ·have h1:=hob _ (ab3 _);refine ⟨_,R.QJ hx hy h1,?_,rfl⟩;rw [<- UInt8.toNat_mod];exact Pd.u8
  have h1:=hob _ (ab3 _);refine ⟨_,R.Sm hx hy h1 ?_,?_,rfl⟩
  ·rw [<- UInt8.toNat_div]; exact BA (UInt8.toNat_lt _)
  rw [<- UInt8.toNat_div];exact Pd.u8
 ·cases ha with | u64 ia=>
  cases hb with | u64 ib=>
  split at h <;> cases h
  ·exact ⟨_,R.lss hx hy,Pd.bool (e:=.lt _ _),rfl⟩
  ·exact ⟨_,R.leq hx hy,Pd.bool (e:=.le _ _),rfl⟩
  ·exact ⟨_,R.gtr hx hy,Pd.bool (e:=.lt _ _),rfl⟩
  ·exact ⟨_,R.geq hx hy,Pd.bool (e:=.le _ _),rfl⟩
  ·exact ⟨_,R.eql hx hy,Pd.bool (e:=.eq _ _),rfl⟩
  ·exact ⟨_,R.neq hx hy,Pd.bool (e:=.not (.eq _ _)),rfl⟩
  ·exact ⟨_,R.SF hx hy,Pd.u64 (agh _ aK),rfl⟩
  ·exact ⟨_,R.Zt hx hy ia ib,Pd.u64 (ahj (n:=64) ia ib),rfl⟩
  ·have h1:=hob _ (ab3 _);have h2:=agY;exact ⟨_,R.Sm hx hy h1 (wrap_u64 (ad5 (h2 _ _) ia)),Pd.u64 (ad5 (h2 _ _) ia),rfl⟩
  ·have h1:=hob _ (ab3 _);exact ⟨_,R.QJ hx hy h1,Pd.u64 (ad5 (Nat.mod_le _ _) ia),rfl⟩
  ·have h1:=hob _ (ab3 _);exact ⟨_,R.DG hx hy aK,Pd.u64 (agh _ aK),rfl⟩
  have h1:=hob _ (ab3 _);exact ⟨_,R.Mi hx hy (ahE h1),Pd.u64 (ad5 (agY _ _) ia),rfl⟩
 ·cases ha with | u64 ia=>
  cases hb with | int ib=>
  split at h <;> cases h
  ·have h1:=hob _ (ac7); have h2:=hob _ (acb _ (ab3 _));rename_i k _ _ _;obtain ⟨k,rfl⟩:=ab9 h1;exact ⟨_,R.DG hx hy aK,Pd.u64 (agh _ aK),rfl⟩
  have h1:=hob _ (ac7); have h2:=hob _ (acb _ (ab3 _));rename_i k _ _ _;obtain ⟨k,rfl⟩:=ab9 h1;exact ⟨_,R.Mi hx hy (show k<=64 by omega),Pd.u64 (ad5 (agY _ _) ia),rfl⟩
 ·cases ha with | int ia=>
  cases hb with | u64 ib=>
  split at h <;> cases h;have h1:=hob _ (ac7); have h2:=hob _ (acb _ (ab3 _));exact ⟨_,R.agp hx hy (ahE h1) h2,Pd.int h2,rfl⟩
 ·cases ha with | u8=>
  cases hb with | u64 ib=>
  split at h <;> cases h;have h1:=hob _ (ab3 _);exact ⟨_,R.Mi hx hy (ahE h1),Lf,rfl⟩
 ·cases ha with | bool=>
  cases hb with | bool=>
  have hu:P.underlying t=some .bool:=by
   simp only [NK] at hb';split at hb'
   ·rename_i h1; exact (hT _ _ h1).2
   cases hb'
  split at h <;> cases h
  ·exact ⟨_,R.afh hx hy hu,Pd.bool (e:=.beq _ _),rfl⟩
  exact ⟨_,R.aey hx hy hu,Pd.bool (e:=.not (.beq _ _)),rfl⟩
 ·cases ha with | str ia=>
  cases hb with | str ib=>
  split at h <;> cases h
  ·exact ⟨_,R.aer hx hy,Pd.bool (e:=.seq _ _),rfl⟩
  ·exact ⟨_,R.aeE hx hy,Pd.bool (e:=.not (.seq _ _)),rfl⟩
  have h1:=hob _ (ab3 _);exact ⟨_,R.adY hx hy h1,Pd.str (by rw [List.length_append]; exact h1),rfl⟩
 ·cases ha with | em ia=>
  cases hb with | @em _ a2 ib=>
  have hu:∃ e,P.underlying t=some (.slice e):=by
   simp only [NK] at hb';split at hb'
   ·rename_i e _ _ _ h1; exact ⟨_,(hT _ _ h1).2.1⟩
   cases hb'
  obtain ⟨e,hu⟩:=hu;obtain rfl:a2=none:=Option.isNone_iff_eq_none.1 ib.symm;subst ia;split at h <;> cases h
  ·exact ⟨_,R.NZ hx hy hu,Pd.bool (e:=.lit _),rfl⟩
  exact ⟨_,R.Ny hx hy hu,Pd.bool (e:=.lit _),rfl⟩
 cases h
theorem WZ (a b:Int):I64 (Xh a b):=by
 unfold Xh; rw [IntKind.wrap_i64]; constructor <;> omega
theorem W_ (a b:Int):I64 (Xj a b):=by
 unfold Xj; rw [IntKind.wrap_i64]; constructor <;> omega
theorem KE {O:bD} (hT:aY P G.shp T) {vb:Value} (hb':NK T t a=true) (h:WU O op a b=some r) (hob:∀ p ∈ r.ob,p) (ha:Rd c ρ a va) (hb:Rd c ρ b vb) (hx:ev F x=some va) (hy:ev F y=some vb) :
  ∃ v,aD P n F w (.binOp op t x y t') ty v w/\Rt c ρ r.v v/\r.fc=[]:=by
 unfold WU at h;split at h
 ·cases h;cases ha with | int ia=>
  cases hb with | int ib=>
  exact ⟨_,R.abJ hx hy,Pd.int (WZ _ _),rfl⟩
 ·cases h;cases ha with | int ia=>
  cases hb with | int ib=>
  exact ⟨_,R.Qx hx hy,Pd.int (W_ _ _),rfl⟩
 exact Kc hT hb' h hob ha hb hx hy
end
section
variable {G:Gl} {ρ:List RE} {H:AH} {w:World}
variable {t:TypeId} {id:Nat}
theorem bl (hR:Rep G ρ H w) {s:Sh} {xs:List (den s)} (hH:getO H id = .row t s xs):(ρ[id]? = some .emp/\xs=[]) \/
  ∃ g cap cells sp,ρ[id]? = some (.row g cap xs.length s.size)/\w.heap[g]? = some (.cells (List.toArray (cells++sp)) t (0,0))/\Pds (cx G ρ w) (xs.flatMap (cellsOf s)) cells/\(cells++sp).length=cap*s.size/\xs.length<=cap/\cap<=maxLen:=by
 obtain ⟨r,hr,h1,h2,h3⟩:=hR.at_ (bB hH (by simp));rcases h3 with ⟨rfl,h3⟩ | ⟨g,cap,cells,sp,rfl,h4⟩
 ·grind
 exact .inr ⟨g,cap,cells,sp,hr,h4⟩
theorem dj (hR:Rep G ρ H w) {s:Sh} {xs:List (den s)} (hH:getO H id = .row t s xs):G.shp t=some s/\xs.length*s.bytes<=140737488355328:=by
 obtain ⟨r,hr,h1,h2,h3⟩:=hR.at_ (bB hH (by simp));exact ⟨h1,h2⟩
theorem cc {g:Nat} {cells sp:List Value} {f:Nat × Nat} (h:w.heap[g]? = some (.cells (List.toArray (cells++sp)) t f)):CellsAt w ⟨g,0,none⟩ cells:=fun j v hv=>by
 rw [add_lit,ac_,cell_of_row w g j _ t f h];grind
theorem CellsAt.drop {a:Addr} {cs:List Value} (h:CellsAt w a cs) (i:Nat):CellsAt w (a.add i) (cs.drop i):=h.shift i
theorem bL {c:Cx} {s:Sh} {xs:List (den s)} {cells:List Value} (h:Pds c (xs.flatMap (cellsOf s)) cells) (i:Nat):Pds c ((xs.drop i).flatMap (cellsOf s)) (cells.drop (i*s.size)):=by
 rw [<- nV]; exact h.drop _
theorem bk {c:Cx} {s:Sh} {xs:List (den s)} {cells:List Value} (h:Pds c (xs.flatMap (cellsOf s)) cells) (i:Nat):Pds c ((xs.take i).flatMap (cellsOf s)) (cells.take (i*s.size)):=by
 rw [<- uW]; exact h.take _
structure Sread (c:Cx) (s:Sh) (xs:List (den s)) (v:Value):Prop where
 ex:∃ a k cells,v = .slice a xs.length k/\xs.length<=k/\k<=maxLen/\Pds c (xs.flatMap (cellsOf s)) cells/\(xs=[]\/∃ A,a=some A/\A.block<c.w.heap.size/\CellsAt c.w A cells)
 le:xs.length*s.bytes<=140737488355328
theorem Pd.Tn {c:Cx} {s:Sh} {xs:List (den s)} {v:Value} (h:Pd c (.fz s xs) v) (hS:∀ b,c.S b->b<c.w.heap.size):Sread c s xs v:=by
 cases h with
 | fz h1 h2 h3 h4 h5=>
  refine ⟨⟨_,_,_,rfl,h1,h2,h4,?_⟩,h3⟩;rcases h5 with h5 | ⟨A,hA,hat,hc⟩
  ·grind
  exact .inr ⟨A,hA,hS _ hat.1,hc⟩
theorem oe {a b m M:Nat} (h:b*m<=M) (k:a<=b):a*m<=M:=Nat.le_trans (adk _ k) h
variable {a:AV}
theorem DB (hR:Rep G ρ H w) {s:Sh} {xs:List (den s)} {v:Value} (ha:a.vw H = .fz s xs) (h:Rd (cx G ρ w) ρ a v):Sread (cx G ρ w) s xs v:=by
 cases a with
 | fz s' ys=>simp only [AV.vw] at ha; cases ha; exact Pd.Tn h fun b hb=>hb.1
 | own id=>
  simp only [AV.vw] at ha;split at ha
  ·rename_i t s' ys hH;cases ha;have hle:=(dj hR hH).2;rcases bl hR hH with ⟨h0,rfl⟩ | ⟨g,cap,cells,sp,h1,h2,h3,h4,h5,h6⟩
   ·rcases h with ⟨_,_,_,_,h,_⟩ | ⟨_,a,rfl⟩
    ·grind
    exact ⟨⟨a,0,[],rfl,ac5 _,by simp [maxLen],.nil,.inl rfl⟩,hle⟩
   rcases h with ⟨_,_,_,_,h,rfl⟩ | ⟨h,_⟩
   ·rw [h1] at h; cases h;exact ⟨⟨_,_,cells,rfl,h5,h6,h3,.inr ⟨_,rfl,(hR.bnd _ _ g h1 rfl).2.1,cc h2⟩⟩,hle⟩
   grind
  cases ha
 | sub id off len=>
  simp only [AV.vw] at ha;split at ha
  ·rename_i t s' ys hH;cases ha;have hle:=(dj hR hH).2;have hle2:((ys.drop off).take len).length*s.bytes<=140737488355328:=oe hle (by simp; omega);rcases bl hR hH with ⟨h0,rfl⟩ | ⟨g,cap,cells,sp,h1,h2,h3,h4,h5,h6⟩
   ·rcases h with ⟨_,_,_,_,h,_⟩ | ⟨_,rfl,rfl,a,rfl⟩
    ·rw [h0] at h; cases h
    exact ⟨⟨a,0,[],rfl,by simp,by simp [maxLen],.nil,.inl rfl⟩,hle2⟩
   rcases h with ⟨_,_,_,_,h,hl,rfl⟩ | ⟨h,_⟩
   ·rw [h1] at h; cases h;have hlen:((ys.drop off).take len).length=len:=by simp; omega
    refine ⟨⟨some ⟨g,off*s.size,none⟩,cap - off,(cells.drop (off*s.size)).take (len*s.size),by rw [hlen],by rw [hlen]; omega,by omega,bk (bL h3 off) len,.inr ⟨_,rfl,(hR.bnd _ _ g h1 rfl).2.1,?_⟩⟩,hle2⟩;have:=((cc h2).drop (off*s.size)).take (len*s.size);rwa [add_lit,ac_] at this
   rw [h1] at h; cases h
  cases ha
 | _=>simp [AV.vw] at ha
theorem nL (hR:Rep G ρ H w) {c:Cx} (hc:(cx G ρ w).le c) (hw:c.w=w) {v:Value} (h:Rd (cx G ρ w) ρ a v)
  (hS:∀ g cap len z,(∃ id,(a = .own id\/∃ o l,a = .sub id o l)/\ρ[id]? = some (.row g cap len z))->c.S g) {s:Sh} {xs:List (den s)} (ha:a.vw H = .fz s xs):Pd c (.fz s xs) v:=by
 cases a with
 | fz s' ys=>simp only [AV.vw] at ha; cases ha; exact Pd.carry h hc
 | own id=>
  simp only [AV.vw] at ha;split at ha
  ·rename_i t s' ys hH;cases ha;have hle:=(dj hR hH);rcases bl hR hH with ⟨h0,rfl⟩ | ⟨g,cap,cells,sp,h1,h2,h3,h4,h5,h6⟩
   ·rcases h with ⟨_,_,_,_,h,_⟩ | ⟨_,a,rfl⟩
    ·grind
    exact .fz (xs:=([]:List (den s))) (cells:=[]) (ac5 _) (by simp [maxLen]) (by simp) .nil (.inl rfl)
   rcases h with ⟨_,_,_,_,h,rfl⟩ | ⟨h,_⟩
   ·rw [h1] at h; cases h;refine .fz h5 h6 hle.2 (h3.carry hc) (.inr ⟨_,rfl,⟨hS g _ _ _ ⟨id,.inl rfl,h1⟩,.inr ⟨_,t,(0,0),by rw [hw]; exact h2,by rw [hc.shp]; exact hle.1,fun _=>rfl⟩⟩,by rw [hw]; exact cc h2⟩)
   grind
  cases ha
 | sub id off len=>
  simp only [AV.vw] at ha;split at ha
  ·rename_i t s' ys hH;cases ha;have hle:=(dj hR hH);have hle2:((ys.drop off).take len).length*s.bytes<=140737488355328:=oe hle.2 (by simp; omega);rcases bl hR hH with ⟨h0,rfl⟩ | ⟨g,cap,cells,sp,h1,h2,h3,h4,h5,h6⟩
   ·rcases h with ⟨_,_,_,_,h,_⟩ | ⟨_,rfl,rfl,a,rfl⟩
    ·rw [h0] at h; cases h
    exact .fz (xs:=([]:List (den s))) (cells:=[]) (ac5 _) (by simp [maxLen]) (by simp) .nil (.inl rfl)
   rcases h with ⟨_,_,_,_,h,hl,rfl⟩ | ⟨h,_⟩
   ·rw [h1] at h; cases h;have hlen:((ys.drop off).take len).length=len:=by simp; omega
    have:=Pd.fz (c:=c) (s:=s) (xs:=(ys.drop off).take len) (a:=some ⟨g,off*s.size,none⟩) (k:=cap - off) (cells:=(cells.drop (off*s.size)).take (len*s.size)) (by rw [hlen]; omega) (by omega) hle2 ((bk (bL h3 off) len).carry hc) (.inr ⟨_,rfl,⟨hS g _ _ _ ⟨id,.inr ⟨_,_,rfl⟩,h1⟩,.inr ⟨_,t,(0,0),by rw [hw]; exact h2,by rw [hc.shp]; exact hle.1,fun _=>rfl⟩⟩,by
     rw [hw];have:=((cc h2).drop (off*s.size)).take (len*s.size);rwa [add_lit,ac_] at this⟩)
    rwa [hlen] at this
   rw [h1] at h; cases h
  cases ha
 | _=>simp [AV.vw] at ha
theorem Pd.oK {c:Cx} {v:Value} (h:Pd c a v):∀ p ∈ a.ok,p:=by
 intro p hp;cases h;case int h1=>rw [ac2.1 hp]; exact h1
 case u64 h1=>rw [ac2.1 hp]; exact h1
 case str h1=>rw [ac2.1 hp]; exact h1
 case fz h1 _ _ _ _=>rw [ac2.1 hp]; assumption
 all_goals cases hp
theorem Pds.oK {c:Cx}:∀ {asx:List AV} {vs:List Value},Pds c asx vs->∀ p ∈ HK asx,p
 | [],_,h=>by cases h; simp [HK]
 | _ :: _,_,h=>by
  cases h with
  | cons h1 h2=>
   intro p hp;simp only [HK,ac1] at hp;exact hp.elim (h1.oK p) (h2.oK p)
theorem Rd.oK {c:Cx} {a:AV} {v:Value} (h:Rd c ρ a v):∀ p ∈ a.ok,p:=by
 cases a;case int=>exact Pd.oK h
 case u64=>exact Pd.oK h
 case str=>exact Pd.oK h
 case fz=>exact Pd.oK h
 all_goals simp [AV.ok]
theorem UB.oK {c:Cx} {asx:List AV} {vs:List Value} (h:All2 (Rd c ρ) asx vs):∀ p ∈ HK asx,p:=by
 induction h with
 | nil=>simp [HK]
 | cons h1 _ ih=>
  intro p hp;simp only [HK,ac1] at hp;exact hp.elim (h1.oK p) (ih p)
theorem cO.oK {c:Cx} {t:TV1} {v:Value} (h:cO c ρ t v):∀ p ∈ t.ok,p:=by
 cases t with
 | c a=>exact Rd.oK h
 | agg l=>obtain ⟨vs,_,h⟩:=h; exact UB.oK h
theorem RL.oK {c:Cx} {asx:List TV1} {vs:List Value} (h:All2 (cO c ρ) asx vs):∀ p ∈ Ho asx,p:=by
 induction h with
 | nil=>simp [Ho]
 | cons h1 _ ih=>
  intro p hp;simp only [Ho,ac1] at hp;exact hp.elim (h1.oK p) (ih p)
theorem cO.cells {c:Cx} {t:TV1} {v:Value} (h:cO c ρ t v):∃ us,v.cells=List.toArray us/\All2 (Rd c ρ) t.cells us:=by
 cases t with
 | c a=>
  refine ⟨[v],?_,.cons h .nil⟩;have:=Rd.one h;cases v <;> simp_all [Value.cells,Value.oneCell']
 | agg l=>obtain ⟨vs,rfl,h⟩:=h; exact ⟨vs,rfl,h⟩
theorem Bj (hR:Rep G ρ H w) {v:Value} (h:Rd (cx G ρ w) ρ a v) {cs:List AV} {o:Nat} (hc:wz H a=some (cs,o)) :
  ∃ A vs,v = .pointer (some A)/\CellsAt w A (vs.drop o)/\All2 (Rd (cx G ρ w) ρ) cs vs:=by
 cases a <;> simp only [wz] at hc;case ptr id k=>
  split at hc
  ·rename_i t cs' hH;cases hc;obtain ⟨r,hr,g,vs,rfl,h1,h2⟩:=hR.at_ (bB hH (by simp));obtain ⟨g',hg,rfl⟩:=h;rw [hr] at hg; cases hg;refine ⟨_,vs,rfl,?_,h2⟩;have:=(cc (cells:=vs) (sp:=[]) (by simpa using h1)).drop o;rwa [add_lit,ac_] at this
  cases hc
 case elp id i k=>
  split at hc
  ·rename_i t s xs hH;cases hc;obtain ⟨g,cap,len,z,h1,h2,rfl⟩:=h;rcases bl hR hH with ⟨h0,rfl⟩ | ⟨g',cap',cells,sp,h3,h4,h5,h6⟩
   ·grind
   rw [h3] at h1; cases h1;have hx:xs[i]? = some xs[i]:=List.getElem?_eq_getElem h2;have hd:xs.getD i (ao s)=xs[i]:=by rw [List.getD_eq_getElem?_getD,hx]; rfl
   rw [hd];have h7:=(h5.drop (i*s.size)).take s.size;rw [nn hx] at h7;refine ⟨_,_,rfl,?_,fU h7⟩;have:=(((cc h4).drop (i*s.size)).take s.size).drop o;rwa [add_lit,add_lit,ac_] at this
  cases hc
 case fe s x k=>
  cases hc;obtain ⟨A,cells,h1,h2,h3,rfl⟩:=h;exact ⟨_,cells,rfl,h2.drop _,fU h3⟩
 case xx k cs'=>
  split at hc;all_goals first | cases hc | skip
  all_goals try (rename_i heq; cases heq)
  obtain ⟨us,h1,A,rfl,h2,h3⟩:=h;exact ⟨A,us,rfl,h3.drop _,by cases h1 with | cons h1 h2=>cases h2; exact .cons h1 .nil⟩
 all_goals cases hc
end
section
variable {P:Program} {T:List (Nat × TI)} {G:Gl} {n:Nat} {F:Fr} {w:World} {x y:Operand} {ty t t':TypeId} {ρ:List RE} {H:AH}
variable {r:PR} {a:AV}
theorem xC (hT:aY P G.shp T) (hR:Rep G ρ H w) {v:Value} (h:Rd (cx G ρ w) ρ a v) (hx:ev F x=some v) (hl:CG T H t a=some r):∃ u,aD P n F w (.load t x) ty u w/\Rt (cx G ρ w) ρ r.v u/\r.ob=[]/\r.fc=[]:=by
 unfold CG at hl;split at hl
 ·rename_i ti cs o hti hcs;obtain ⟨A,vs,rfl,hA,hvs⟩:=Bj hR h hcs;obtain ⟨⟨hsz,_⟩,hk⟩:=hT _ _ hti;have hagg:∀ (_:Nat.ble (o+ti.size) cs.length=true) (d:TypeDesc),P.underlying t=some d->jO d=true->aD P n F w (.load t x) ty (.agg (((vs.drop o).take ti.size).toArray)) w:=fun hb d hd ha=>by
   have hb':=adl hb;have hlen:=hvs.length;exact R.UG hx hd ha (by rw [hsz,List.length_take,List.length_drop]; congr 1; omega) (hA.take _)
  have hone:∀ (a:AV) (d:TypeDesc),P.underlying t=some d->jO d=false->cs[o]? = some a->∃ u,aD P n F w (.load t x) ty u w/\Rd (cx G ρ w) ρ a u:=fun a d hd ha ho=>by
   obtain ⟨u,hu,hr⟩:=dC hvs o a ho;refine ⟨u,R.TM hx hd ha ?_,hr⟩;have:=hA 0 u (by rw [adf,ahk]; exact hu);rwa [uA] at this
  split at hl
  ·rename_i fs hkk hb;cases hl;rw [hkk] at hk;obtain ⟨Fs,hu,_⟩:=hk;exact ⟨_,hagg hb _ hu rfl,⟨_,rfl,(hvs.drop _).take _⟩,rfl,rfl⟩
  ·rename_i m e hkk hb;cases hl;rw [hkk] at hk;exact ⟨_,hagg hb _ hk rfl,⟨_,rfl,(hvs.drop _).take _⟩,rfl,rfl⟩
  ·cases hl
  ·cases hl
  ·cases hl
  rename_i k b h1 h2 h3;split at hl
  ·rename_i a ha;cases hl;have:∃ d,P.underlying t=some d/\jO d=false:=by
    cases hkk:ti.k <;> rw [hkk] at hk;case i=>exact ⟨_,hk,rfl⟩
    case bool=>exact ⟨_,hk,rfl⟩
    case str=>exact ⟨_,hk,rfl⟩
    case sl=>exact ⟨_,hk.1,rfl⟩
    case st=>simp_all
    case ar=>simp_all
    case mp=>exact ⟨_,hk.1,rfl⟩
    case ifc=>exact ⟨_,hk,rfl⟩
    case ms=>exact ⟨_,hk.1,rfl⟩
    case mg=>exact ⟨_,hk.1,rfl⟩
    case ptr=>obtain ⟨e,hk⟩:=hk; exact ⟨_,hk,rfl⟩
    all_goals exact hk
   obtain ⟨d,hd,hag⟩:=this;obtain ⟨u,h4,h5⟩:=hone a d hd hag ha;exact ⟨u,h4,h5,rfl,rfl⟩
  cases hl
 cases hl
theorem wo {α β:Type} {f:α->Option β}:∀ {l:List α} {r:List β},l.mapM f=some r->∀ (i:Nat) (q:β),r[i]? = some q->∃ a,l[i]? = some a/\f a=some q
 | a :: l,r,h,i,q,hq=>by
  simp only [List.mapM_cons,Option.bind_eq_bind,Option.bind_eq_some_iff] at h;obtain ⟨b,hb,bs,hbs,rfl⟩:=by simpa using h
  cases i with
  | zero=>simp at hq; subst hq; exact ⟨a,rfl,hb⟩
  | succ i=>simpa using wo hbs i q (by simpa using hq)
theorem Hp (hT:aY P G.shp T) {c:Cx} {v:Value} {fs:List (Nat × Nat)} {sz:Nat} {z:List AV} {i o k:Nat} (ht:aQ T t=some ⟨.st fs,sz,z⟩) (hi:fs[i]? = some (o,k)) (h:Rd c ρ a v) (hx:ev F x=some v) (hr:a.nZ o=some r) :
  ∃ u,aD P n F w (.fieldAddr t x i) ty u w/\Rt c ρ r.v u/\r.ob=[]/\r.fc=[]:=by
 obtain ⟨_,Fs,hu,hm,hp,_⟩:=hT _ _ ht;obtain ⟨f,hf,hfs⟩:=wo hm i _ hi;rw [adg] at hfs;obtain ⟨inf,hinf,he⟩:=hfs;cases he;have hk:=hp _ (ada hi);have hsz:(P.info? f.type).map (·.size)=some (inf.size - 1+1):=by rw [hinf]; show some inf.size=some _; congr 1; simp only at hk; omega
 have hF:Fs[i]? = some f:=by simpa using hf
 cases a with
 | ptr id o'=>
  simp only [AV.nZ,pr,Option.some.injEq] at hr;subst hr;obtain ⟨g,h1,rfl⟩:=h;have:=R.fieldAddr (P:=P) (n:=n) (w:=w) (ty:=ty) hx hu hF rfl hsz;rw [add_lit] at this;exact ⟨_,this,⟨g,h1,rfl⟩,rfl,rfl⟩
 | elp id i' o'=>
  simp only [AV.nZ,pr,Option.some.injEq] at hr;subst hr;obtain ⟨g,cap,len,z,h1,h2,rfl⟩:=h;have:=R.fieldAddr (P:=P) (n:=n) (w:=w) (ty:=ty) hx hu hF rfl hsz;rw [add_lit] at this;exact ⟨_,this,⟨g,cap,len,z,h1,h2,by rw [Nat.add_assoc]⟩,rfl,rfl⟩
 | fe s x' o'=>
  simp only [AV.nZ,pr,Option.some.injEq] at hr;subst hr;obtain ⟨A,cells,h1,h2,h3,rfl⟩:=h;have:=R.fieldAddr (P:=P) (n:=n) (w:=w) (ty:=ty) hx hu hF rfl hsz;rw [add_add] at this;exact ⟨_,this,⟨A,cells,h1,h2,h3,rfl⟩,rfl,rfl⟩
 | _=>simp [AV.nZ] at hr
end
def zw:List Value->Value
 | [v]=>v
 | l=>.tuple l.toArray
def Sat (P:Program) (shp:TypeId->Option Sh) (f:Nat) (args:List TV1) (H:AH) (r:SpecR):Prop:=
 (∃ fn,P.funcs[f]? = some fn/\(fn.name == "runtime.NumGoroutine")=false/\fn.body.isNone=false) /\
 ∀ (G:Gl) (ρ:List RE) (w:World) (vs:List Value),G.shp=shp->Rep G ρ H w->All2 (cO (cx G ρ w) ρ) args vs->jI P f vs.toArray w fun v w'=>∃ us,v=zw us/\match r.out with
  | none=>Kp [] w w' /\ All2 (cO (cx G ρ w') ρ) r.rs us
  | some H'=>∃ ρ',Rep G ρ' H' w' /\ Ext ρ w ρ' w' /\ (∀ (i g:Nat),ρ[i]? = some (.blk g)->ρ'[i]? = some (.blk g))/\All2 (cO (cx G ρ' w') ρ') r.rs us/\(r.keep=true->Kp [] w w' /\ ∀ (i:Nat) (rr:RE),ρ[i]? = some rr->ρ'[i]? = some rr)
def ay (P:Program) (shp:TypeId->Option Sh) (O:bD):Prop:=∀ f args H r,O f args H=some r->(∀ p ∈ r.pre,p)->Sat P shp f args H r
theorem bj {i:Nat}:∀ {l:List Nat},bQ i l=true↔i ∈ l
 | []=>by simp [bQ]
 | j :: r=>by
  unfold bQ;cases hb:Nat.beq i j
  ·have:i≠j:=by rintro rfl; simp at hb
   simp [bj,this]
  simp_all
theorem jb {σ:List Nat}:∀ {l:List Nat},po σ l=true↔∀ i ∈ l,i ∈ σ
 | []=>by simp [po]
 | j :: r=>by simp [po,bj,jb]
theorem lT {σ:List Nat}:∀ {l:List Nat},oG σ l=true↔∀ i ∈ l,i ∉ σ
 | []=>by simp [oG]
 | j :: r=>by
  simp only [oG,Bool.and_eq_true,lT,agH,adu,<- Bool.not_eq_true,bj]
theorem jj:∀ {l:List Nat},ko l=true↔l.Nodup
 | []=>by simp [ko]
 | j :: r=>by
  simp only [ko,Bool.and_eq_true,jj,List.nodup_cons,adu,<- Bool.not_eq_true,bj]
theorem iu {H:AH} {σ:List Nat}:∀ {l:List Nat},gu H σ l=true↔∀ i ∈ l,i<H.length/\∀ j ∈ (getO H i).ids,j ∈ σ
 | []=>by simp [gu]
 | j :: r=>by simp [gu,iu,jb]
theorem jX {i:Nat}:∀ {σ:List Nat},i ∈ σ->σ[posOf i σ]? = some i
 | j :: r,h=>by
  unfold posOf;cases hb:Nat.beq i j
  ·have hne:i≠j:=by rintro rfl; simp at hb
   have:i ∈ r:=by simpa [hne] using h
   simpa using jX this
  simp_all
def cR (ρ:List RE) (σ:List Nat):List RE:=σ.map fun i=>ρ.getD i .no
variable {i j:Nat} {σ:List Nat} {ρ:List RE}
theorem nb (h:σ[j]? = some i):(cR ρ σ)[j]? = some (ρ.getD i .no):=by simp [cR,h]
variable {r:RE}
theorem getD_some (h:ρ[i]? = some r):ρ.getD i .no=r:=by rw [List.getD_eq_getElem?_getD,h]; rfl
theorem g_ (h:i ∈ σ) (hr:ρ[i]? = some r):(cR ρ σ)[posOf i σ]? = some r:=by rw [nb (jX h),getD_some hr]
theorem eY (h:(cR ρ σ)[j]? = some r) (hne:r ≠ .no):ρ[σ.getD j 0]? = some r:=by
 simp only [cR] at h;grind
theorem ga {b:Nat} (h:live (cR ρ σ) b):live ρ b:=by
 obtain ⟨j,r,h1,h2⟩:=h;exact ⟨_,r,eY h1 (by rintro rfl; cases h2),h2⟩
theorem kY {ρ ρ':List RE} {f:Nat->Nat}:∀ {l:List (Nat × Nat)} {vs:List Value},(∀ i ∈ l.map (·.1),∀ g,ρ[i]? = some (.blk g)->ρ'[f i]? = some (.blk g))->All2 (dP ρ) l vs->All2 (dP ρ') (Ky f l) vs
 | [],_,_,h=>by cases h; exact .nil
 | (i,o) :: r,_,hf,h=>by
  cases h with
  | cons h1 h2=>
   obtain ⟨g,hg,e⟩:=h1;exact .cons ⟨g,hf i (by simp) g hg,e⟩ (kY (fun j hj=>hf j (by simp at hj ⊢; exact .inr hj)) h2)
theorem Rd.ly {c c':Cx} {ρ ρ':List RE} {f:Nat->Nat} {a:AV} {v:Value} (hp:a.plain=true->Pd c a v->Pd c' a v) (hfe:∀ s x o,a = .fe s x o->Rd c' ρ' a v) (hxx:∀ k cs us,a = .xx k cs->k.rd c us v->k.rd c' us v) (hf:∀ i ∈ a.ids,∀ r,ρ[i]? = some r->r ≠ .no->ρ'[f i]? = some r) (h:Rd c ρ a v):Rd c' ρ' (a.ly f) v:=by
 cases a with
 | own id=>
  rcases h with ⟨g,cap,len,z,h,e⟩ | ⟨h,e⟩
  ·exact .inl ⟨g,cap,len,z,hf id (by simp [AV.ids]) _ h (by simp),e⟩
  exact .inr ⟨hf id (by simp [AV.ids]) _ h (by simp),e⟩
 | sub id o l=>
  rcases h with ⟨g,cap,len,z,h,e⟩ | ⟨h,e⟩
  ·exact .inl ⟨g,cap,len,z,hf id (by simp [AV.ids]) _ h (by simp),e⟩
  exact .inr ⟨hf id (by simp [AV.ids]) _ h (by simp),e⟩
 | ptr id o=>
  obtain ⟨g,h,e⟩:=h;exact ⟨g,hf id (by simp [AV.ids]) _ h (by simp),e⟩
 | elp id i o=>
  obtain ⟨g,cap,len,z,h,e⟩:=h;exact ⟨g,cap,len,z,hf id (by simp [AV.ids]) _ h (by simp),e⟩
 | fn g b cs=>
  obtain ⟨bs,us,h1,h2,e⟩:=h;refine ⟨bs,us,kY (fun i hi g hg=>hf i ?_ _ hg (by simp)) h1,kY (fun i hi g hg=>hf i ?_ _ hg (by simp)) h2,e⟩
  ·simp only [AV.ids,ac1]; exact .inl hi
  simp only [AV.ids,ac1]; exact .inr hi
 | fe s x o=>exact hfe s x o rfl
 | xx k cs=>
  obtain ⟨us,h1,h2⟩:=h;exact ⟨us,kY (fun i hi g hg=>hf i hi _ hg (by simp)) h1,hxx k cs us rfl h2⟩
 | mq id=>
  obtain ⟨g,h,e⟩:=h;exact ⟨g,hf id (by simp [AV.ids]) _ h (by simp),e⟩
 | np=>exact h
 | nf=>exact h
 | yl l=>exact h
 | dead=>exact h
 | int n=>exact hp rfl h
 | u8 b=>exact hp rfl h
 | u64 n=>exact hp rfl h
 | bool e=>exact hp rfl h
 | str s=>exact hp rfl h
 | em b=>exact hp rfl h
 | li nw xs=>exact hp rfl h
 | fz s xs=>exact hp rfl h
theorem fH {f:Sh->Bool}:∀ {l:List Sh},iT f l=true↔∀ s ∈ l,f s=true
 | []=>by simp [iT]
 | s :: r=>by simp [iT,fH]
theorem jl {s:Sh} {x:den s} {s':Sh} {ys:List (den s')} (h:AV.fz s' ys ∈ cellsOf s x):s' ∈ s.gy:=by
 cases s with
 | nm t=>cases t <;> simp [cellsOf,NT.cells] at h <;> first | (simp [Sh.gy,NT.gy,h]; done) | (rcases h with h | h | h <;> simp [Sh.gy,NT.gy,h.1]; done) | (rcases h with h | h | h | h <;> simp [Sh.gy,NT.gy,h.1]; done) | (rcases h with h | h <;> simp [Sh.gy,NT.gy,h.1])
 | lst s=>simp [cellsOf] at h; simp [Sh.gy,h.1]
 | _=>simp [cellsOf] at h
theorem jn {s:Sh} {x:den s} {nw:Bool} {ys:List Int} (h:AV.li nw ys ∈ cellsOf s x):Sh.int ∈ s.gy:=by
 cases s with
 | nm t=>cases t <;> simp [cellsOf,NT.cells] at h <;> simp [Sh.gy,NT.gy]
 | lx=>simp [Sh.gy]
 | _=>simp [cellsOf] at h
def PJ (n:Nat) (b:Sh):AV->Bool
 | .fz s _=>Sh.no n b s
 | .li _ _=>Sh.no n b .int
 | _=>true
variable {c':Cx}
theorem XK.rd.unl {c:Cx} {ls:List Sh} {k:XK} {cs:List (Nat × Nat)} {us:List Value} {v:Value} (hw:c'.w=c.w) (hs:c'.shp=c.shp) (hB:c'.B0=c.B0)
  (hS:∀ b,c.S b->c'.S b\/(¬ b<c.B0/\∃ sb ∈ ls,∃ cur t fr,c.w.heap[b]? = some (.cells cur t fr)/\c.shp t=some sb)) (h:k.rd c us v) (hno:∀ b ∈ ls,(AV.xx k cs).no b=true):k.rd c' us v:=by
 by_cases hl:ls=[]
 ·subst hl;exact h.le ⟨hs,hB,fun b hb=>⟨(hS b hb).resolve_right fun ⟨_,sb,h,_⟩=>by simp at h,by rw [hw]⟩,fun b _ _=>by rw [hw]⟩
 obtain ⟨b,hb⟩:=List.exists_mem_of_ne_nil _ hl;have:=hno b hb;cases k;case er=>exact h
 case bp=>exact h
 case w=>exact h
 case kf=>exact h
 case ff=>exact XK.Ud h ⟨hs,hB,fun b hb=>⟨⟨by rw [hB]; exact hb.1,by rw [hw]; exact hb.2⟩,by show c'.w.heap[b]? = _; rw [hw]; rfl⟩,fun b _ _=>by show c'.w.heap[b]? = _; rw [hw]; rfl⟩
 all_goals simp [AV.no] at this
variable {a:AV}
theorem Pd.Ob {c:Cx} (ls:List Sh) (hw:c'.w=c.w) (hs:c'.shp=c.shp) (hB:c'.B0=c.B0)
  (hS:∀ b,c.S b->c'.S b\/(¬ b<c.B0/\∃ sb ∈ ls,∃ cur t fr,c.w.heap[b]? = some (.cells cur t fr)/\c.shp t=some sb)) {v:Value} (h:Pd c a v):∀ n,(∀ b ∈ ls,PJ n b a=true)->Pd c' a v:=by
 refine @Pd.rec c (fun a v _=>∀ n,(∀ b ∈ ls,PJ n b a=true)->Pd c' a v) (fun asx vs _=>∀ n,(∀ a ∈ asx,∀ b ∈ ls,PJ n b a=true)->Pds c' asx vs) ?_ ?_ ?_ ?_ ?_ ?_ ?_ ?_ ?_ ?_ a v h
 ·intro n h1 _ _; exact .int h1
 ·intro b _ _; exact .u8
 ·intro n h1 _ _; exact .u64 h1
 ·intro e _ _; exact .bool
 ·intro s h1 _ _; exact .str h1
 ·intro b a h1 _ _; exact .em h1
 ·intro s xs a k cells h1 h2 h3 _ h5 ih n hno;have key:∀ b ∈ ls,s≠b/\∀ s' ∈ s.gy,Sh.no (n - 1) b s' = true:=fun b hb=>by
   have:=hno b hb;cases n with
   | zero=>simp [PJ,Sh.no] at this
   | succ n=>
    simp only [PJ,Sh.no,Bool.and_eq_true,adu,agJ,fH] at this;exact this
  refine .fz h1 h2 h3 (ih (n - 1) fun x hx b hb=>?_) ?_
  ·rw [List.mem_flatMap] at hx;obtain ⟨y,_,hy⟩:=hx;cases x with
   | fz s' ys=>exact (key b hb).2 s' (jl hy)
   | li nw ys=>exact (key b hb).2 .int (jn hy)
   | _=>rfl
  rcases h5 with h5 | ⟨A,hA,hat,hc⟩
  ·exact .inl h5
  refine .inr ⟨A,hA,?_,by rw [hw]; exact hc⟩;rcases hS _ hat.1 with h6 | ⟨h6,sb,hsb,cur,t,fr,h7,h8⟩
  ·refine ⟨h6,?_⟩;rw [hB,hw,hs]; exact hat.2
  rcases hat.2 with h9 | ⟨cur',t',fr',h9,h10,_⟩
  ·exact absurd h9 h6
  grind
 ·intro nw xs a k h1 h2 h3 h4 h5 n hno;refine .li h1 h2 h3 h4 ?_;rcases h5 with h5 | ⟨A,hA,hn,ho,hc⟩
  ·exact .inl h5
  have key:c.at .int A.block->c'.at .int A.block:=fun k=>by
   rcases hS _ k.1 with h6 | ⟨h6,sb,hsb,cur',t',fr',h7,h8⟩
   ·exact ⟨h6,by rw [hB,hw,hs]; exact k.2⟩
   rcases k.2 with k2 | ⟨cur,t,fr,k3,k4,_⟩
   ·exact absurd k2 h6
   rw [h7] at k3; cases k3;rw [h8] at k4; cases k4;have:=hno _ hsb;cases n <;> simp [PJ,Sh.no] at this
  refine .inr ⟨A,hA,fun e=>?_,fun e=>(ho e).imp (fun k=>⟨by rw [hB]; exact k.1,by rw [hw]; exact k.2⟩) key,by rw [hw]; exact hc⟩;obtain ⟨k1,k2,cur,t,fr,k3,k4,k6⟩:=hn e;have k5:=key ⟨k1,.inr ⟨cur,t,fr,k3,k4,fun _=>k6⟩⟩;exact ⟨k5.1,by rw [hB]; exact k2,cur,t,fr,by rw [hw]; exact k3,by rw [hs]; exact k4,k6⟩
 ·intro _ _; exact .nil
 intro a v r vs _ _ h1 h2 n hno;exact .cons (h1 n (hno a (by simp))) (h2 n fun x hx=>hno x (by simp [hx]))
theorem we {b:Sh}:∀ {l:List AV},Zh b l=true↔∀ a ∈ l,a.no b=true
 | []=>by simp [Zh]
 | a :: r=>by simp [Zh,we]
theorem wR {b:Sh}:∀ {l:List TV1},ZE b l=true↔∀ t ∈ l,∀ a ∈ t.cells,a.no b=true
 | []=>by simp [ZE]
 | a :: r=>by simp [ZE,wR,we]
theorem oF {H:AH} {i:Nat} {t:TypeId} {s:Sh} {xs:List (den s)} (h:getO H i = .row t s xs):∀ {l:List Nat},i ∈ l->s ∈ eZ H l
 | j :: r,hi=>by
  rcases ac4.1 hi with rfl | hi
  ·simp [eZ,h]
  have:=oF h hi;unfold eZ;grind
theorem nh {c c':Cx} {ρ ρ':List RE} {f:Nat->Nat}:∀ {asx:List AV} {vs:List Value},(∀ a ∈ asx,∀ v,Rd c ρ a v->Rd c' ρ' (a.ly f) v)->All2 (Rd c ρ) asx vs->All2 (Rd c' ρ') (Mz f asx) vs
 | [],_,_,h=>by cases h; exact .nil
 | a :: r,_,hf,h=>by cases h with | cons h1 h2=>exact .cons (hf a (by simp) _ h1) (nh (fun x hx=>hf x (by simp [hx])) h2)
variable {t:TV1}
theorem MY {c:Cx} {ρ':List RE} {f:Nat->Nat} {v:Value} (hf:∀ a ∈ t.cells,∀ v,Rd c ρ a v->Rd c' ρ' (a.ly f) v) (h:cO c ρ t v):cO c' ρ' (t.ly f) v:=by
 cases t with
 | c a=>exact hf a (by simp [TV1.cells]) _ h
 | agg l=>obtain ⟨vs,rfl,h⟩:=h; exact ⟨vs,rfl,nh hf h⟩
theorem lj {c c':Cx} {ρ ρ':List RE} {f:Nat->Nat}:∀ {ts:List TV1} {vs:List Value},(∀ t ∈ ts,∀ a ∈ t.cells,∀ v,Rd c ρ a v->Rd c' ρ' (a.ly f) v)->All2 (cO c ρ) ts vs->All2 (cO c' ρ') (iC f ts) vs
 | [],_,_,h=>by cases h; exact .nil
 | t :: r,_,hf,h=>by cases h with | cons h1 h2=>exact .cons (MY (hf t (by simp)) h1) (lj (fun x hx=>hf x (by simp [hx])) h2)
theorem ID {c c':Cx} {ρ ρ':List RE} {f:Nat->Nat} {H:AH}:∀ {asx:List AV} {vs:List Value},(∀ a ∈ asx,∀ v,Rd c ρ a v->Rd c' ρ' ((a.vw H).ly f) v)->All2 (Rd c ρ) asx vs->All2 (Rd c' ρ') (Mz f (ER H asx)) vs
 | [],_,_,h=>by cases h; exact .nil
 | a :: r,_,hf,h=>by cases h with | cons h1 h2=>exact .cons (hf a (by simp) _ h1) (ID (fun x hx=>hf x (by simp [hx])) h2)
theorem Ch {c c':Cx} {ρ ρ':List RE} {f:Nat->Nat} {H:AH}:∀ {ts:List TV1} {vs:List Value},(∀ t ∈ ts,∀ a ∈ t.cells,∀ v,Rd c ρ a v->Rd c' ρ' ((a.vw H).ly f) v)->All2 (cO c ρ) ts vs->All2 (cO c' ρ') (iC f (GU H ts)) vs
 | [],_,_,h=>by cases h; exact .nil
 | t :: r,_,hf,h=>by
  cases h with
  | cons h1 h2=>
   refine .cons ?_ (Ch (fun x hx=>hf x (by simp [hx])) h2);cases t with
   | c a=>exact hf (.c a) (by simp) a (by simp [TV1.cells]) _ h1
   | agg l=>obtain ⟨vs,rfl,h1⟩:=h1; exact ⟨vs,rfl,ID (hf (.agg l) (by simp)) h1⟩
theorem kE {i:Nat}:∀ {l:List AV} {a:AV},a ∈ l->i ∈ a.ids->i ∈ vG l
 | b :: r,a,h,hi=>by
  simp only [vG,ac1];rcases ac4.1 h with rfl | h
  ·grind
  exact .inr (kE h hi)
theorem tc {i:Nat}:∀ {l:List (Int × AV)} {q:Int × AV},q ∈ l->i ∈ q.2.ids->i ∈ ML l
 | b :: r,q,h,hi=>by
  simp only [ML,ac1];rcases ac4.1 h with rfl | h
  ·grind
  exact .inr (tc h hi)
theorem lN {H:AH}:∀ {l:List Nat},nR H l=true↔∀ i ∈ l,∃ t s xs,getO H i = .row t s xs
 | []=>by simp [nR]
 | i :: r=>by
  simp only [nR,Bool.and_eq_true,lN,agH];grind
theorem qk {f:Nat->Nat}:∀ l:List (Int × AV),Sg f l=l.map fun q=>(q.1,q.2.ly f)
 | []=>rfl
 | (k,a) :: r=>by simp [Sg,qk r]
theorem kM {i:Nat}:∀ {l:List TV1} {t:TV1} {a:AV},t ∈ l->a ∈ t.cells->i ∈ a.ids->i ∈ pH l
 | b :: r,t,a,h,ha,hi=>by
  simp only [pH,ac1];rcases ac4.1 h with rfl | h
  ·exact .inl (kE ha hi)
  exact .inr (kM h ha hi)
theorem yg {H:AH} (h:a ∈ t.cells):a.vw H ∈ (t.vw H).cells:=by
 cases t with
 | c b=>simp only [TV1.cells,ac2] at h; subst h; simp [TV1.vw,TV1.cells]
 | agg l=>
  simp only [TV1.cells] at h;simp only [TV1.vw,TV1.cells];induction l with
  | nil=>simp at h
  | cons b r ih=>
   rcases ac4.1 h with rfl | h
   ·simp [ER]
   simp only [ER,ac4]; exact .inr (ih h)
theorem wv {H:AH}:∀ {l:List TV1} {t:TV1},t ∈ l->t.vw H ∈ GU H l
 | b :: r,t,h=>by
  rcases ac4.1 h with rfl | h
  ·simp [GU]
  simp only [GU,ac4]; exact .inr (wv h)
theorem xV {i:Nat}:∀ {l:List AV} {a:AV},a ∈ l->(a = .own i\/∃ o k,a = .sub i o k)->i ∈ eC l
 | b :: r,a,h,hi=>by
  rcases ac4.1 h with rfl | h
  ·rcases hi with rfl | ⟨o,k,rfl⟩ <;> simp [eC]
  have:=xV h hi;cases b <;> simp [eC,this]
theorem sO {i:Nat}:∀ {l:List TV1} {t:TV1} {a:AV},t ∈ l->a ∈ t.cells->(a = .own i\/∃ o k,a = .sub i o k)->i ∈ fy l
 | b :: r,t,a,h,ha,hi=>by
  simp only [fy,ac1];rcases ac4.1 h with rfl | h
  ·exact .inl (xV ha hi)
  exact .inr (sO h ha hi)
theorem IZ {b:Sh} (h:a.no b=true):PJ 5 b a=true:=by cases a <;> first | rfl | exact h
theorem xN {H:AH}:∀ {σ:List Nat} {j i:Nat},σ[j]? = some i->(kF H σ)[j]? = some (getO H i)
 | k :: r,0,i,h=>by simp at h; subst h; simp [kF]
 | k :: r,j+1,i,h=>by simpa [kF] using xN (σ:=r) (by simpa using h)
theorem p_ {f:Nat->Nat}:∀ {l:List AO} {j:Nat} {o:AO},l[j]? = some o->(nQ f l)[j]? = some (o.ly f)
 | k :: r,0,i,h=>by simp at h; subst h; simp [nQ]
 | k :: r,j+1,i,h=>by simpa [nQ] using p_ (l:=r) (by simpa using h)
theorem kH {f:Nat->Nat}:∀ {l:List AO},(nQ f l).length=l.length
 | []=>rfl
 | _ :: r=>by simp [nQ,kH]
theorem vd {H:AH}:∀ {σ:List Nat},(kF H σ).length=σ.length
 | []=>rfl
 | _ :: r=>by simp [kF,vd]
section
variable {G:Gl} {ρ:List RE} {H:AH} {w:World} {σ:List Nat}
theorem Rep.sub (hR:Rep G ρ H w) {Z':Nat->Prop} (hn:ko σ=true) (hc:gu H σ σ=true) (hZ:∀ b,Z' b->b<w.heap.size) (hZ0:∀ b,¬ G.Z b->¬ live ρ b->¬ Z' b) (hZ1:∀ b,live (cR ρ σ) b->¬ Z' b) :
  Rep ⟨G.shp,G.B0,Z'⟩ (cR ρ σ) (nQ (posOf · σ) (kF H σ)) w/\(cx G ρ w).le (cx ⟨G.shp,G.B0,Z'⟩ (cR ρ σ) w):=by
 have hle:(cx G ρ w).le (cx ⟨G.shp,G.B0,Z'⟩ (cR ρ σ) w):=⟨rfl,rfl,fun b hb=>⟨⟨hb.1,fun hl=>hb.2.1 (ga hl),hZ0 b hb.2.2 hb.2.1⟩,rfl⟩,fun _ _ _=>rfl⟩;have hcl:=iu.1 hc;refine ⟨⟨cg (by simp [kH,vd,cR]) fun j o r ho hr=>?_,fun i j r r' g h1 h2 h3 h4=>?_,fun i r g h1 h2=>?_,hZ,hR.b0,hR.tb.carry hle⟩,hle⟩
 ·have hj:j<σ.length:=by
   have:=(aam.1 hr).1;simpa [cR] using this
  have hσ:σ[j]? = some σ[j]:=List.getElem?_eq_getElem hj;have hi:σ[j] ∈ σ:=adV _;rw [nb hσ] at hr;cases hr;rw [p_ (xN (H:=H) hσ)] at ho;cases ho;obtain ⟨hlt,hids⟩:=hcl _ hi;have hH:H[σ[j]]? = some H[σ[j]]:=List.getElem?_eq_getElem hlt;have hO:getO H σ[j]=H[σ[j]]:=by unfold getO; rw [List.getD_eq_getElem?_getD,hH]; rfl
  obtain ⟨r,hr,hor⟩:=hR.at_ hH;rw [getD_some hr,hO];rw [hO] at hids;generalize H[σ[j]]=o at hor hids;cases o with
  | gone=>exact hor
  | mapo s f=>
   obtain ⟨g,rfl,h⟩:=hor;exact ⟨g,rfl,h.carry hle rfl⟩
  | loc=>trivial
  | mapf l=>
   obtain ⟨g,rfl,h⟩:=hor;refine ⟨g,rfl,h.map (g0:=fun a=>a.ly (posOf · σ)) (qk l) (fun q hq v h=>Rd.ly (fun _ hp=>hp.carry hle) (fun s x o e=>?_) (fun _ _ _ _ h=>h.le hle) (fun i hi r hr _=>g_ (hids i (tc hq hi)) hr) h) rfl⟩;rw [e] at h ⊢;obtain ⟨A,cells,k1,k2,k3,e⟩:=h;exact ⟨A,cells,(hle.S _ k1).1,k2,k3.carry hle,e⟩
  | arr t s n xs=>
   obtain ⟨g,vs,rfl,h1,h2,h3⟩:=hor;exact ⟨g,vs,rfl,h1,h2.carry hle,h3⟩
  | box t cs=>
   obtain ⟨g,vs,rfl,h1,h2⟩:=hor;refine ⟨g,vs,rfl,h1,nh (fun a ha v h=>Rd.ly (fun _ hp=>hp.carry hle) (fun s x o e=>?_) (fun _ _ _ _ h=>h.le hle) (fun i hi r hr _=>g_ (hids i (kE ha hi)) hr) h) h2⟩;subst e;obtain ⟨A,cells,k1,k2,k3,e⟩:=h;exact ⟨A,cells,(hle.S _ k1).1,k2,k3.carry hle,e⟩
  | row t s xs=>
   obtain ⟨h1,h2,h3⟩:=hor;exact ⟨h1,h2,h3.imp id fun ⟨g,cap,cells,sp,e,h4,h5,h6⟩=>⟨g,cap,cells,sp,e,h4,h5.carry hle,h6⟩⟩
 ·have e1:=eY h1 (by rintro rfl; cases h3);have e2:=eY h2 (by rintro rfl; cases h4);have:=hR.inj _ _ _ _ g e1 e2 h3 h4;have hi:i<σ.length:=by simpa [cR] using (aam.1 h1).1
  have hj:j<σ.length:=by simpa [cR] using (aam.1 h2).1
  have a1:σ.getD i 0=σ[i]:=by rw [List.getD_eq_getElem?_getD,List.getElem?_eq_getElem hi]; rfl
  have a2:σ.getD j 0=σ[j]:=by rw [List.getD_eq_getElem?_getD,List.getElem?_eq_getElem hj]; rfl
  rw [a1,a2] at this;exact (List.getElem_inj (jj.1 hn)).1 this
 have e1:=eY h1 (by rintro rfl; cases h2);have:=hR.bnd _ _ g e1 h2;exact ⟨this.1,this.2.1,hZ1 g ⟨i,r,h1,h2⟩⟩
end
section
variable {P:Program} {G:Gl} {O:bD} {n:Nat} {F:Fr} {w:World} {ρ:List RE} {H:AH}
theorem uh (hO:ay P G.shp O) (hR:Rep G ρ H w) {f:Nat} {args:List TV1} {vs:List Value} {r:PR} (hvs:All2 (cO (cx G ρ w) ρ) args vs) (h:Fb O H f args=some r) (hob:∀ p ∈ r.ob,p) :
  (∃ fn,P.funcs[f]? = some fn/\(fn.name == "runtime.NumGoroutine")=false/\fn.body.isNone=false)/\jI P f vs.toArray w fun v w'=>Kp [] w w' /\ Rt (cx G ρ w') ρ r.v v/\∀ p ∈ r.fc,p:=by
 unfold Fb at h;generalize hσ:sJ H (GU H args)=σ at h;simp only at h;split at h
 ·rename_i hck;simp only [Bool.and_eq_true] at hck;obtain ⟨⟨⟨⟨hn,hai⟩,hcl⟩,hno⟩,hrw⟩:=hck;split at h
  ·rename_i pre rs kp hrs;split at h
   ·rename_i hsh;cases h;have hai:=jb.1 hai;have hno:=lT.1 hno;let lent:Nat->Prop:=fun b=>∃ id ∈ fy args,∃ rr,ρ[id]? = some rr/\rr.g? = some b
    let Z':Nat->Prop:=fun b=>G.Z b\/(live ρ b/\¬ live (cR ρ σ) b/\¬ lent b)
    have hlentσ:∀ b,lent b->¬ live (cR ρ σ) b:=by
     rintro b ⟨id,hid,rr,h1,h2⟩ ⟨j,r2,h3,h4⟩;have e:=eY h3 (by rintro rfl; cases h4);have e2:=hR.inj _ _ _ _ b h1 e h2 h4;have hj:j<σ.length:=by simpa [cR] using (aam.1 h3).1
     have a1:σ.getD j 0=σ[j]:=by rw [List.getD_eq_getElem?_getD,List.getElem?_eq_getElem hj]; rfl
     exact hno id hid (by rw [e2,a1]; exact adV _)
    obtain ⟨hR',hle⟩:=hR.sub (σ:=σ) (Z':=Z') hn hcl (fun b hb=>hb.elim (hR.z b) fun ⟨⟨i,r,h1,h2⟩,_⟩=>(hR.bnd i r b h1 h2).2.1) (fun b h1 h2 hz=>hz.elim h1 fun h3=>h2 h3.1)
     (fun b h1 hz=>hz.elim (fun h2=>by obtain ⟨i,r,h3,h4⟩:=ga h1; exact (hR.bnd i r b h3 h4).2.2 h2) fun h2=>h2.2.1 h1)
    obtain ⟨hfn,hrun⟩:=hO _ _ _ _ hrs hob;refine ⟨hfn,?_⟩;have hargs:All2 (cO (cx ⟨G.shp,G.B0,Z'⟩ (cR ρ σ) w) (cR ρ σ)) (iC (posOf · σ) (GU H args)) vs:=by
     refine Ch (fun t ht a ha v hv=>?_) hvs;have hids:∀ i ∈ (a.vw H).ids,i ∈ σ:=fun i hi=>hai i (kM (wv ht) (yg ha) hi);by_cases hown:∃ id,a = .own id\/∃ o k,a = .sub id o k
     ·obtain ⟨id,hid⟩:=hown;have hmem:=sO ht ha hid;cases hv2:a.vw H with
      | fz s xs=>
       refine kN (nL hR hle rfl hv (fun g cap len z ⟨id',he,h1⟩=>?_) hv2);have e:id' = id:=by rcases hid with rfl | ⟨o,k,rfl⟩ <;> rcases he with he | ⟨_,_,he⟩ <;> cases he <;> rfl
       subst e;have hl:lent g:=⟨id',hmem,_,h1,rfl⟩;have hb:=hR.bnd _ _ g h1 rfl;exact ⟨hb.2.1,hlentσ g hl,fun hz=>hz.elim hb.2.2 fun h2=>h2.2.2 hl⟩
      | dead=>exact Rd.one hv
      | _=>
       rcases hid with rfl | ⟨o,k,rfl⟩ <;> simp only [AV.vw] at hv2 <;> split at hv2 <;> cases hv2
     have e:a.vw H=a:=by
      cases a <;> first | rfl | exact absurd ⟨_,.inl rfl⟩ hown | exact absurd ⟨_,.inr ⟨_,_,rfl⟩⟩ hown
     rw [e] at hids ⊢;refine Rd.ly (fun _ hp=>hp.carry hle) (fun s x o e=>?_) (fun _ _ _ _ h=>h.le hle) (fun i hi r hr _=>g_ (hids i hi) hr) hv;subst e;obtain ⟨A,cells,k1,k2,k3,e⟩:=hv;exact ⟨A,cells,(hle.S _ k1).1,k2,k3.carry hle,e⟩
    refine (hrun ⟨G.shp,G.B0,Z'⟩ _ w vs rfl hR' hargs).mono fun v w' ⟨us,hv,hk,hrs'⟩=>?_;refine ⟨hk,?_,RL.oK hrs'⟩;have hback:All2 (cO (cx G ρ w') ρ) (iC (fun j=>σ.getD j 0) rs) us:=by
     refine lj (fun t ht a ha u hu=>?_) hrs';have hno5:∀ b ∈ eZ H (fy args),a.no b=true:=fun b hb=>wR.1 (fH.1 hsh b hb) t ht a ha;have hS:∀ b,(cx ⟨G.shp,G.B0,Z'⟩ (cR ρ σ) w').S b->(cx G ρ w').S b\/(¬ b<G.B0/\∃ sb ∈ eZ H (fy args),∃ cur t fr,w'.heap[b]? = some (.cells cur t fr)/\G.shp t=some sb):=by
      rintro b ⟨h1,h2,h3⟩;by_cases hl:live ρ b
      ·right;have hlt:lent b:=by
        by_cases hx:lent b
        ·exact hx
        exact absurd (.inr ⟨hl,h2,hx⟩) h3
       obtain ⟨id,hid,rr,h4,h5⟩:=hlt;have hb:=hR.bnd _ _ b h4 h5;refine ⟨by omega,?_⟩;have hlen:id<H.length:=by
        have:=(aam.1 h4).1;rw [hR.obj.length]; exact this
       obtain ⟨r',hr',hor⟩:=hR.at_ (List.getElem?_eq_getElem hlen);rw [h4] at hr';cases hr';have hO:getO H id=H[id]:=by unfold getO; rw [List.getD_eq_getElem?_getD,List.getElem?_eq_getElem hlen]; rfl
       cases ho:H[id] with
       | gone=>rw [ho] at hor; cases hor; cases h5
       | box t cs=>
        -- a box is not lent
        exfalso;have:∀ (l:List TV1) (us:List Value),All2 (cO (cx G ρ w) ρ) l us->id ∈ fy l->∃ g cap len z,ρ[id]? = some (.row g cap len z)\/ρ[id]? = some .emp:=by
         intro l us hl;induction hl with
         | nil=>intro h; simp [fy] at h
         | @cons t u l us h1 _ ih=>
          intro h;simp only [fy,ac1] at h;rcases h with h | h
          ·obtain ⟨us',hc',hcells⟩:=cO.cells h1;clear h1 hc';generalize t.cells=q at h hcells;induction hcells with
           | nil=>simp [eC] at h
           | @cons a' v' _ _ h3 _ ih2=>
            cases a' <;> simp only [eC,ac4] at h;case own j=>
             rcases h with rfl | h
             ·rcases h3 with ⟨g,cap,len,z,h3,_⟩ | ⟨h3,_⟩
              ·exact ⟨g,cap,len,z,.inl h3⟩
              exact ⟨0,0,0,0,.inr h3⟩
             exact ih2 h
            case sub j o k=>
             rcases h with rfl | h
             ·rcases h3 with ⟨g,cap,len,z,h3,_⟩ | ⟨h3,_⟩
              ·exact ⟨g,cap,len,z,.inl h3⟩
              exact ⟨0,0,0,0,.inr h3⟩
             exact ih2 h
            all_goals exact ih2 h
          exact ih h
        obtain ⟨g,cap,len,z,h6⟩:=this _ _ hvs hid;rw [ho] at hor;obtain ⟨g',vs',rfl,_⟩:=hor;rcases h6 with h6 | h6 <;> rw [h4] at h6 <;> cases h6
       | mapo s0 f0=>
        -- a map is not lent
        exfalso;have:∀ (l:List TV1) (us:List Value),All2 (cO (cx G ρ w) ρ) l us->id ∈ fy l->∃ g cap len z,ρ[id]? = some (.row g cap len z)\/ρ[id]? = some .emp:=by
         intro l us hl;induction hl with
         | nil=>intro h; simp [fy] at h
         | @cons t u l us h1 _ ih=>
          intro h;simp only [fy,ac1] at h;rcases h with h | h
          ·obtain ⟨us',hc',hcells⟩:=cO.cells h1;clear h1 hc';generalize t.cells=q at h hcells;induction hcells with
           | nil=>simp [eC] at h
           | @cons a' v' _ _ h3 _ ih2=>
            cases a' <;> simp only [eC,ac4] at h;case own j=>
             rcases h with rfl | h
             ·rcases h3 with ⟨g,cap,len,z,h3,_⟩ | ⟨h3,_⟩
              ·exact ⟨g,cap,len,z,.inl h3⟩
              exact ⟨0,0,0,0,.inr h3⟩
             exact ih2 h
            case sub j o k=>
             rcases h with rfl | h
             ·rcases h3 with ⟨g,cap,len,z,h3,_⟩ | ⟨h3,_⟩
              ·exact ⟨g,cap,len,z,.inl h3⟩
              exact ⟨0,0,0,0,.inr h3⟩
             exact ih2 h
            all_goals exact ih2 h
          exact ih h
        obtain ⟨g,cap,len,z,h6⟩:=this _ _ hvs hid;rw [ho] at hor;obtain ⟨g',rfl,_⟩:=hor;rcases h6 with h6 | h6 <;> rw [h4] at h6 <;> cases h6
       | loc=>
        have:=lN.1 hrw id hid;obtain ⟨t,s,xs,e⟩:=this;rw [hO,ho] at e; cases e
       | mapf l0=>
        -- nor is a map of functions
        exfalso;have:∀ (l:List TV1) (us:List Value),All2 (cO (cx G ρ w) ρ) l us->id ∈ fy l->∃ g cap len z,ρ[id]? = some (.row g cap len z)\/ρ[id]? = some .emp:=by
         intro l us hl;induction hl with
         | nil=>intro h; simp [fy] at h
         | @cons t u l us h1 _ ih=>
          intro h;simp only [fy,ac1] at h;rcases h with h | h
          ·obtain ⟨us',hc',hcells⟩:=cO.cells h1;clear h1 hc';generalize t.cells=q at h hcells;induction hcells with
           | nil=>simp [eC] at h
           | @cons a' v' _ _ h3 _ ih2=>
            cases a' <;> simp only [eC,ac4] at h;case own j=>
             rcases h with rfl | h
             ·rcases h3 with ⟨g,cap,len,z,h3,_⟩ | ⟨h3,_⟩
              ·exact ⟨g,cap,len,z,.inl h3⟩
              exact ⟨0,0,0,0,.inr h3⟩
             exact ih2 h
            case sub j o k=>
             rcases h with rfl | h
             ·rcases h3 with ⟨g,cap,len,z,h3,_⟩ | ⟨h3,_⟩
              ·exact ⟨g,cap,len,z,.inl h3⟩
              exact ⟨0,0,0,0,.inr h3⟩
             exact ih2 h
            all_goals exact ih2 h
          exact ih h
        obtain ⟨g,cap,len,z,h6⟩:=this _ _ hvs hid;rw [ho] at hor;obtain ⟨g',rfl,_⟩:=hor;rcases h6 with h6 | h6 <;> rw [h4] at h6 <;> cases h6
       | arr t0 s0 n0 xs0=>
        -- nor is an array
        exfalso;have:∀ (l:List TV1) (us:List Value),All2 (cO (cx G ρ w) ρ) l us->id ∈ fy l->∃ g cap len z,ρ[id]? = some (.row g cap len z)\/ρ[id]? = some .emp:=by
         intro l us hl;induction hl with
         | nil=>intro h; simp [fy] at h
         | @cons t u l us h1 _ ih=>
          intro h;simp only [fy,ac1] at h;rcases h with h | h
          ·obtain ⟨us',hc',hcells⟩:=cO.cells h1;clear h1 hc';generalize t.cells=q at h hcells;induction hcells with
           | nil=>simp [eC] at h
           | @cons a' v' _ _ h3 _ ih2=>
            cases a' <;> simp only [eC,ac4] at h;case own j=>
             rcases h with rfl | h
             ·rcases h3 with ⟨g,cap,len,z,h3,_⟩ | ⟨h3,_⟩
              ·exact ⟨g,cap,len,z,.inl h3⟩
              exact ⟨0,0,0,0,.inr h3⟩
             exact ih2 h
            case sub j o k=>
             rcases h with rfl | h
             ·rcases h3 with ⟨g,cap,len,z,h3,_⟩ | ⟨h3,_⟩
              ·exact ⟨g,cap,len,z,.inl h3⟩
              exact ⟨0,0,0,0,.inr h3⟩
             exact ih2 h
            all_goals exact ih2 h
          exact ih h
        obtain ⟨g,cap,len,z,h6⟩:=this _ _ hvs hid;rw [ho] at hor;obtain ⟨g',vs',rfl,_⟩:=hor;rcases h6 with h6 | h6 <;> rw [h4] at h6 <;> cases h6
       | row t s xs=>
        rw [ho] at hor hO;obtain ⟨h6,_,h7⟩:=hor;refine ⟨s,oF hO hid,?_⟩;rcases h7 with ⟨rfl,_⟩ | ⟨g,cap,cells,sp,rfl,h8,_⟩
        ·cases h5
        cases h5;exact ⟨_,t,(0,0),(hk.block _ hb.2.1 (by simp)).trans h8,h6⟩
      left; exact ⟨h1,hl,fun hz=>h3 (.inl hz)⟩
     have hpd:∀ {b:AV} {u:Value},Pd (cx ⟨G.shp,G.B0,Z'⟩ (cR ρ σ) w') b u->(∀ sb ∈ eZ H (fy args),PJ 5 sb b=true)->Pd (cx G ρ w') b u:=fun hb hn=>Pd.Ob (c:=cx ⟨G.shp,G.B0,Z'⟩ (cR ρ σ) w') (c':=cx G ρ w') (eZ H (fy args)) rfl rfl rfl hS hb 5 hn;refine Rd.ly (fun _ hp=>hpd hp fun sb hsb=>IZ (hno5 sb hsb)) (fun s x o e=>?_) (fun k cs us e h=>h.unl (c:=cx ⟨G.shp,G.B0,Z'⟩ (cR ρ σ) w') (c':=cx G ρ w') rfl rfl rfl hS fun sb hsb=>e ▸ hno5 sb hsb) (fun i hi r hr hne=>eY hr hne) hu;subst e
     -- a pointer into what is frozen: nothing was lent
     have hnil:eZ H (fy args)=[]:=by
      cases hq:eZ H (fy args) with
      | nil=>rfl
      | cons b l=>have:=hno5 b (by rw [hq]; simp); simp [AV.no] at this
     rw [hnil] at hS;have hS':(cx ⟨G.shp,G.B0,Z'⟩ (cR ρ σ) w').le (cx G ρ w'):=⟨rfl,rfl,fun b hb=>⟨(hS b hb).resolve_right fun ⟨_,sb,h,_⟩=>by simp at h,rfl⟩,fun _ _ _=>rfl⟩;obtain ⟨A,cells,k1,k2,k3,e⟩:=hu;exact ⟨A,cells,(hS'.S _ k1).1,k2,k3.carry hS',e⟩
    subst hv;show Rt (cx G ρ w') ρ (FU (iC (fun j=>σ.getD j 0) rs)) (zw us);generalize iC (fun j=>σ.getD j 0) rs=rs' at hback ⊢;cases hback with
    | nil=>exact ⟨[],rfl,.nil⟩
    | @cons t u l us h1 h2=>
     cases h2 with
     | nil=>exact h1
     | cons h3 h4=>exact ⟨_,rfl,.cons h1 (.cons h3 h4)⟩
   cases h
  cases h
 cases h
end
def Yields (P:Program) (n:Nat) (F:Fr) (w:World) (op:Op) (ty:TypeId) (φ:Value->World->Prop):Prop:=
 (∃ v w',aD P n F w op ty v w' /\ φ v w')\/(∃ f args,Enters P n F w op ty f args/\jI P f args w φ)
theorem Yields.mono {P:Program} {n:Nat} {F:Fr} {w:World} {op:Op} {ty:TypeId} {φ ψ:Value->World->Prop} (h:Yields P n F w op ty φ) (hh:∀ v w',φ v w' -> ψ v w'):Yields P n F w op ty ψ:=by
 rcases h with ⟨v,w',h1,h2⟩ | ⟨f,args,h1,h2⟩
 ·exact .inl ⟨v,w',h1,hh _ _ h2⟩
 exact .inr ⟨f,args,h1,h2.mono hh⟩
section
variable {P:Program} {n:Nat} {fr:Fr} {w:World} {x y:Operand} {ty t t' e:TypeId}
theorem R.I_ {v:Value} {c:Cx} {xs:List UInt8} (hw:c.w=w) (hx:ev fr x=some v) (hs:P.underlying t=some (.slice e)) (hd:P.underlying t' = some .string) (he:P.underlying e=some (.int .u8)) (h:Sread c .u8 xs v) :
  aD P n fr w (.convert t t' x) ty (⟨xs⟩:Str).val w:=fun _ _ _ _ _ ha=>by
 obtain ⟨a,k,cells,rfl,h1,h2,h3,h4⟩:=h.ex;have hfl:cells=xs.map fun b=>Value.int .u8 (b.toNat:Int):=by
  have:∀ (l:List UInt8) (vs:List Value),Pds c (l.flatMap (cellsOf .u8)) vs->vs=l.map fun b=>Value.int .u8 (b.toNat:Int):=by
   intro l;induction l with
   | nil=>intro vs h; cases h; rfl
   | cons b l ih=>
    intro vs h;cases h with
    | cons h1 h2=>cases h1; rw [ih _ h2]; rfl
  grind
 have main:(convert t t' (.slice a xs.length k)).run P w = .ok (.string ⟨xs.toArray⟩) w:=by
  cases a with
  | none=>
   have hn:xs=[]:=by
    grind
   subst hn;rw [run_convert_bytes_string w t t' e none _ k hs he hd]; rfl
  | some A=>
   refine run_convert_bytes_back w t t' e A k xs hs he hd fun j hj=>?_;rcases h4 with h4 | ⟨A',hA,_,hc⟩
   ·grind
   cases hA;rw [hfl,hw] at hc;exact hc j _ (by simp [hj])
 simp [execOp,ha.ev hx,main,Str.val]
theorem R.MA {s:Str} (hx:ev fr x=some s.val) (hlen:s.b.length<=140737488355328) (hs:P.underlying t=some .string) (hd:P.underlying t' = some (.slice e)) (he:P.underlying e=some (.int .u8)) :
  ∃ a k w',aD P n fr w (.convert t t' x) ty (.slice a s.b.length k) w' /\ Kp [] w w' /\ s.b.length<=k/\k<=maxLen/\a=some ⟨w.heap.size,0,none⟩/\w.heap.size<w'.heap.size/\CellsAt w' ⟨w.heap.size,0,none⟩ (s.b.map fun b=>Value.int .u8 (b.toNat:Int))/\∃ C fz,w'.heap[w.heap.size]? = some (.cells C e fz):=by
 have hrun:=run_bytes_of_string w t t' e ⟨s.b.toArray⟩ hs hd he;have hsz:(⟨s.b.toArray⟩:ByteArray).size=s.b.length:=by simp [ByteArray.size]
 have hge:=grownCap_ge w (⟨s.b.toArray⟩:ByteArray).size 0 e;have hle:=grownCap_le_maxLen w (⟨s.b.toArray⟩:ByteArray).size 0 e (by rw [hsz]; simp [maxLen]; omega);generalize hcap:grownCap w (⟨s.b.toArray⟩:ByteArray).size 0 e=cap at *;generalize hC:bytesRow ⟨s.b.toArray⟩ cap=C at hrun;have hnew:(w.drew.alloc (.cells C e (C.size,C.size+1))).heap[w.heap.size]? = some (.cells C e (C.size,C.size+1)):=agi w.drew _;refine ⟨some ⟨w.heap.size,0,none⟩,cap,w.drew.alloc (.cells C e (C.size,C.size+1)),fun a _ _ _ _ ha=>?_,?_,hge,hle,rfl,by simp,fun j v hv=>?_,C,_,hnew⟩
 ·rw [hsz] at hrun;simp only [Str.val] at hx;simp [execOp,ha.ev hx,hrun]
 ·have:=Kp.alloc w.drew (.cells C e (C.size,C.size+1));exact ⟨this.os,this.tape,this.output,this.size,this.block⟩
 rw [add_lit,ac_,cell_of_row _ w.heap.size j C _ _ hnew];subst hC;simp only [List.getElem?_map,adg] at hv;obtain ⟨b,hb,rfl⟩:=hv;have hj:j<s.b.length:=(aam.1 hb).1;rw [List.getElem?_eq_getElem hj] at hb;have hb2:=adb hb;simp [bytesRow,hj,Array.getElem?_append,hb2]
theorem mI (s:Str):(⟨s.b.toArray⟩:ByteArray).size=s.b.length:=by simp [ByteArray.size]
variable {k:IntKind} {z:Operand}
theorem R.aem {s:Str} (hx:ev fr x=some s.val) (hz:ev fr z=some (.int k (i:Int))) (ht:P.underlying t=some .string) (hi:i<=s.b.length):aD P n fr w (.slice t x (some z) none none) ty (⟨s.b.drop i⟩:Str).val w:=fun _ _ _ _ _ ha=>by
 have e0:=run_sliceAt_string (P:=P) w t (.string ⟨s.b.toArray⟩) (some (.int k (i:Int))) none none ht;have:=run_slice_string_l (P:=P) w t ⟨s.b.toArray⟩ ht k (i:Int) (by omega) (by rw [mI]; omega);have e:s.cut i s.b.length=⟨s.b.drop i⟩:=by simp [Str.cut,<- List.length_drop]
 rw [<- e,<- Str.wx s i s.b.length];rw [mI,adm] at this;simp only [Str.val] at hx;simp [execOp,ha.ev hx,ha.ev hz,e0,this]
theorem R.ace {s:Str} {k':IntKind} {z':Operand} (hx:ev fr x=some s.val) (hz:ev fr z=some (.int k (i:Int))) (hz':ev fr z' = some (.int k' (j:Int))) (ht:P.underlying t=some .string) (hij:i<=j) (hj:j<=s.b.length):aD P n fr w (.slice t x (some z) (some z') none) ty (⟨(s.b.drop i).take (j - i)⟩:Str).val w:=fun _ _ _ _ _ ha=>by
 have e0:=run_sliceAt_string (P:=P) w t (.string ⟨s.b.toArray⟩) (some (.int k (i:Int))) (some (.int k' (j:Int))) none ht;have:=run_slice_string (P:=P) w t ⟨s.b.toArray⟩ k k' (i:Int) (j:Int) ht (by omega) (by omega) (by rw [mI]; omega);have e:(⟨(s.b.drop i).take (j - i)⟩:Str)=s.cut i j:=rfl;rw [e,<- Str.wx s i j];simp only [Str.val] at hx;simp [execOp,ha.ev hx,ha.ev hz,ha.ev hz',e0,this]
theorem R.aac {s:Str} (hx:ev fr x=some s.val) (hz:ev fr z=some (.int k (j:Int))) (ht:P.underlying t=some .string) (hj:j<=s.b.length):aD P n fr w (.slice t x none (some z) none) ty (⟨s.b.take j⟩:Str).val w:=by
 have:=R.ag2 (P:=P) (n:=n) (w:=w) (ty:=ty) hx hz ht hj;have e:s.cut 0 j=⟨s.b.take j⟩:=by simp [Str.cut]
 rwa [e] at this
theorem R.ZN {s:Str} (hx:ev fr x=some s.val) (hy:ev fr y=some (.int k (i:Int))) (ht:P.underlying t=some .string) (hi:i<s.b.length):aD P n fr w (.index t x y) ty (.int .u8 ((s.b.getD i 0).toNat:Int)) w:=fun _ _ _ _ _ ha=>by
 have:=run_index_string (P:=P) w t ⟨s.b.toArray⟩ k (i:Int) ht;rw [ahA ⟨by omega,by rw [mI]; omega⟩] at this;simp only [Str.val] at hx;have e:((⟨s.b.toArray⟩:ByteArray)[(i:Int).toNat]'(by simp [ByteArray.size]; omega))=s.b.getD i 0:=by
  rw [List.getD_eq_getElem?_getD,List.getElem?_eq_getElem hi];simp [ByteArray.getElem_eq_getElem_data]
 rw [e] at this;simp [execOp,ha.ev hx,ha.ev hy,this]
end
section
variable {P:Program} {T:List (Nat × TI)} {G:Gl} {n:Nat} {F:Fr} {w:World} {x y:Operand} {ty t t':TypeId} {ρ:List RE} {H:AH}
theorem Bx (hT:aY P G.shp T) {s:Sh} (h:TZ T t=some s):∃ e,P.underlying t=some (.slice e)/\G.shp e=some s/\(∃ z:List Value,(P.info? e).map (fun i=>(i.zero.map Value.cells,i.size,i.bytes))=some (some z.toArray,s.size,s.bytes)/\A_ (cellsOf s (ao s)) z=true)/\(P.info? e).map (·.size)=some s.size/\(s = .u8->P.underlying e=some (.int .u8)/\(P.info? e).bind (·.zero)=some (.int .u8 0)):=by
 unfold TZ at h;split at h
 ·rename_i e so sz z hf;subst h;obtain ⟨h1,h2⟩:=(hT _ _ hf).2;obtain ⟨h3,⟨zz,h4,h5⟩,h6⟩:=h2 s rfl;refine ⟨e,h1,h3,⟨zz,h4,h5⟩,?_,h6⟩;cases hq:P.info? e with
  | none=>simp [hq] at h4
  | some i=>simp only [hq,Option.map_some,Option.some.injEq,ahy] at h4 ⊢; exact h4.2.1
 cases h
theorem oN {b:AV} {i:Int} {v:Value} {c:Cx} (h:b.ix=some i) (hb:Rd c ρ b v):∃ k,v = .int k i:=by
 cases b <;> simp only [AV.ix] at h <;> cases h
 ·cases hb with | int=>exact ⟨_,rfl⟩
 ·cases hb with | u8=>exact ⟨_,rfl⟩
 cases hb with | u64=>exact ⟨_,rfl⟩
theorem JH {c:Cx} {s:Sh} {xs:List (den s)} {v:Value} {x:den s} (h:Pd c (.fz s xs) v) (hx:xs[i]? = some x):∃ A k,v = .slice (some A) xs.length k/\i<xs.length/\Rd c ρ (.fe s x 0) (.pointer (some (A.add (i*s.size))))/\∃ us,Pds c (cellsOf s x) us:=by
 have hi:i<xs.length:=(aam.1 hx).1;cases h with
 | fz h1 h2 h3 h4 h5=>
  rcases h5 with h5 | ⟨A,rfl,hat,hc⟩
  ·grind
  have h7:=(h4.drop (i*s.size)).take s.size;rw [nn hx] at h7;refine ⟨A,_,rfl,hi,⟨A.add (i*s.size),_,by rw [fN]; exact hat.1,(hc.shift _).take _,h7,by rw [uA]⟩,_,h7⟩
theorem mK {s:Sh} {xs:List (den s)} (h:i<xs.length):xs[i]? = some (xs.getD i (ao s)):=by
 rw [List.getD_eq_getElem?_getD,List.getElem?_eq_getElem h]; rfl
theorem Hw {a:Option Addr} {c s:Nat} {sh:Sh} {ys:List (den sh)} {cells:List Value} (hi:i<=c) {A:Addr} (hA:a=some A) (hcells:CellsAt c'.w A cells) (hat:c'.at sh A.block) (hys:Pds c' (ys.flatMap (cellsOf sh)) ((cells.drop (i*s)).take (ys.length*s))) (hl:ys.length<=c - i) (hc:c<=maxLen) (hb:ys.length*sh.bytes<=140737488355328) :
  Pd c' (.fz sh ys) (.slice (if c=i then a else a.map (·.add (i*s))) ys.length (c - i)):=by
 refine .fz hl (by omega) hb hys ?_;by_cases h:c=i
 ·simp_all
 right;rw [if_neg h,hA];exact ⟨A.add (i*s),rfl,by rw [fN]; exact hat,(hcells.shift _).take _⟩
variable {r:PR} {va:Value}
theorem Hi (hT:aY P G.shp T) (hR:Rep G ρ H w) {s':Sh} {i:Int} {k:IntKind} (hs:TZ T t=some s') (h:sj H s' a i=some r) (hob:∀ p ∈ r.ob,p) (ha:Rd (cx G ρ w) ρ a va) (hx:ev F x=some va) (hy:ev F y=some (.int k i)) :
  ∃ v,aD P n F w (.indexAddr t x y) ty v w/\Rt (cx G ρ w) ρ r.v v/\∀ p ∈ r.fc,p:=by
 obtain ⟨e,hu,_,_,hsz,_⟩:=Bx hT hs;cases a with
 | fz s xs=>
  simp only [sj] at h;split at h
  ·rename_i hd;cases h;have e1:s' = s:=ac6 hd;subst e1;have h0:=hob _ (ac7); have h1:=hob _ (acb _ (ab3 _));obtain ⟨j,rfl⟩:=ab9 h0;have hj:j<xs.length:=by omega
   obtain ⟨A,kk,rfl,_,hfe,us,hus⟩:=JH (ρ:=ρ) ha (mK hj);exact ⟨_,R.jz hx hy hu hsz rfl hj,hfe,hus.oK⟩
  cases h
 | own id=>
  simp only [sj] at h;split at h
  ·rename_i t0 s xs hH;split at h
   ·rename_i hd;cases h;have e1:s' = s:=ac6 hd;subst e1;have h0:=hob _ (ac7); have h1:=hob _ (acb _ (ab3 _));obtain ⟨j,rfl⟩:=ab9 h0;have hj:j<xs.length:=by omega
    rcases bl hR hH with ⟨_,rfl⟩ | ⟨g,cap,cells,sp,h2,h3,h4,h5⟩
    ·simp at hj
    rcases ha with ⟨_,_,_,_,h6,rfl⟩ | ⟨h6,_⟩
    ·rw [h2] at h6; cases h6;have:=R.jz (P:=P) (n:=n) (w:=w) (ty:=ty) hx hy hu hsz rfl hj;rw [add_lit,ac_] at this;have h7:=(h4.drop (j*s'.size)).take s'.size;rw [nn (mK hj)] at h7;exact ⟨_,this,⟨g,cap,xs.length,s'.size,h2,hj,rfl⟩,h7.oK⟩
    grind
   cases h
  cases h
 | _=>simp [sj] at h
theorem Gp (hT:aY P G.shp T) {c:Cx} {l h:Option Int} {ol oh:Option Operand} (hr:ki T t a l h=some r) (hob:∀ p ∈ r.ob,p) (ha:Rd c ρ a va) (hx:ev F x=some va)
  (hl:∀ i,l=some i->∃ z,ol=some z/\ev F z=some (.int .i64 i)) (hl0:l=none->ol=none) (hh:∀ i,h=some i->∃ z,oh=some z/\ev F z=some (.int .i64 i)) (hh0:h=none->oh=none) :
  ∃ v,aD P n F w (.slice t x ol oh none) ty v w/\Rt c ρ r.v v/\r.fc=[]:=by
 cases a with
 | fz s xs=>
  simp only [ki] at hr;split at hr
  ·rename_i s' hs;split at hr
   ·rename_i hd;have e1:s' = s:=ac6 hd;subst e1;obtain ⟨e,hu,_,_,hsz,_⟩:=Bx hT hs;cases ha with
    | @fz _ _ a k cells h1 h2 h3 h4 h5=>
    have main:∀ (i:Nat) (ys:List (den s')),i<=xs.length->ys.length<=xs.length - i->Pds c (ys.flatMap (cellsOf s')) ((cells.drop (i*s'.size)).take (ys.length*s'.size))->Pd c (.fz s' ys) (.slice (if k=i then a else a.map (·.add (i*s'.size))) ys.length (k - i)):=by
     intro i ys hi hy hp;rcases h5 with h5 | ⟨A,rfl,hat,hc⟩
     ·subst h5;have h00:([]:List (den s')).length=0:=rfl;have:ys=[]:=acr (by omega);subst this;exact .fz (xs:=([]:List (den s'))) (cells:=[]) (by simp) aK (by simp) .nil (.inl rfl)
     exact Hw aK rfl hc hat hp aK h2 (oe h3 aK)
    have hcl:cells.length=xs.length*s'.size:=by rw [<- h4.length,bR]
    split at hr
    ·-- from l
     rename_i i;cases hr;obtain ⟨z,rfl,hz⟩:=hl _ rfl;obtain rfl:=hh0 rfl;have g0:=hob _ (ac7); have g1:=hob _ (acb _ (ab3 _));obtain ⟨i,rfl⟩:=ab9 g0;have hi:i<=xs.length:=by omega
     have:=main i (xs.drop i) hi (by simp) (by
      rw [List.length_drop,List.take_of_length_le (by rw [List.length_drop,hcl,Nat.sub_mul]; omega)];exact bL h4 i)
     rw [List.length_drop] at this;exact ⟨_,R.cS hx hz hu hsz rfl hi,this,rfl⟩
    ·rename_i j;cases hr;obtain ⟨z,rfl,hz⟩:=hh _ rfl;obtain rfl:=hl0 rfl;have g0:=hob _ (ac7); have g1:=hob _ (acb _ (ab3 _));obtain ⟨j,rfl⟩:=ab9 g0;have hj:j<=xs.length:=by omega
     have hlen:(xs.take j).length=j:=by simp; omega
     have:=main 0 (xs.take j) (by omega) (by simp; omega) (by
      rw [hlen,ahx,ahF];exact bk h4 j)
     rw [hlen] at this;exact ⟨_,R.kx hx hz hu hsz rfl aK,this,rfl⟩
    ·rename_i i j;cases hr;obtain ⟨z,rfl,hz⟩:=hl _ rfl;obtain ⟨z',rfl,hz'⟩:=hh _ rfl;have g0:=hob _ (ac7); have g1:=hob _ (acb _ (ac7)); have g2:=hob _ (acb _ (acb _ (ab3 _)));obtain ⟨i,rfl⟩:=ab9 g0;obtain ⟨j,rfl⟩:=ab9 (ahD g0 g1);have hlen:((xs.drop i).take (j - i)).length=j - i:=by simp; omega
     have:=main i ((xs.drop i).take (j - i)) (by omega) (by simp; omega) (by
      rw [hlen];exact bk (bL h4 i) (j - i))
     rw [hlen] at this;exact ⟨_,R.EZ hx hz hz' hu hsz rfl aK aK,this,rfl⟩
    cases hr
   cases hr
  cases hr
 | str s=>
  simp only [ki] at hr;split at hr
  ·rename_i sz z hf;have hu:P.underlying t=some .string:=(hT _ _ hf).2;cases ha with
   | str hs=>
   split at hr
   ·cases hr;obtain ⟨z,rfl,hz⟩:=hl _ rfl;obtain rfl:=hh0 rfl;have g0:=hob _ (ac7); have g1:=hob _ (acb _ (ab3 _));obtain ⟨i,rfl⟩:=ab9 g0;exact ⟨_,R.aem hx hz hu aK,Pd.str (by simp; omega),rfl⟩
   ·cases hr;obtain ⟨z,rfl,hz⟩:=hh _ rfl;obtain rfl:=hl0 rfl;have g0:=hob _ (ac7); have g1:=hob _ (acb _ (ab3 _));obtain ⟨i,rfl⟩:=ab9 g0;exact ⟨_,R.aac hx hz hu aK,Pd.str (by simp; omega),rfl⟩
   ·cases hr;obtain ⟨z,rfl,hz⟩:=hl _ rfl;obtain ⟨z',rfl,hz'⟩:=hh _ rfl;have g0:=hob _ (ac7); have g1:=hob _ (acb _ (ac7)); have g2:=hob _ (acb _ (acb _ (ab3 _)));obtain ⟨i,rfl⟩:=ab9 g0;obtain ⟨j,rfl⟩:=ab9 (ahD g0 g1);exact ⟨_,R.ace hx hz hz' hu aK aK,Pd.str (by simp; omega),rfl⟩
   cases hr
  cases hr
 | _=>simp [ki] at hr
theorem Rk (hT:aY P G.shp T) (hR:Rep G ρ H w) {m:Int} (h:VC T H t a=some m) (ha:Rd (cx G ρ w) ρ a va) (hx:ev F x=some va):aD P n F w (.call { callee:=.builtin .len,args:=#[x],argTypes:=#[t] }) ty (.int .i64 m) w/\I64 m:=by
 have hmax:∀ k:Nat,k<=maxLen->I64 (k:Int):=fun k hk=>by simp only [maxLen] at hk; exact ⟨by omega,by omega⟩
 unfold VC at h;split at h
 ·rename_i s xs e so sz z hf;cases h;cases ha with
  | fz h1 h2 h3 h4 h5=>exact ⟨R.len hx (hT _ _ hf).2.1,hmax _ (Nat.le_trans h1 h2)⟩
 ·rename_i s sz z hf;cases h;cases ha with
  | str hs=>exact ⟨R.afq hx (hT _ _ hf).2,⟨by omega,by omega⟩⟩
 ·rename_i b e so sz z hf;cases h;cases ha with
  | em hs=>exact ⟨R.len hx (hT _ _ hf).2.1,⟨by omega,by omega⟩⟩
 ·rename_i id e so sz z hf;split at h
  ·rename_i t0 s xs hH;cases h;rcases bl hR hH with ⟨h0,rfl⟩ | ⟨g,cap,cells,sp,h2,h3,h4,h5,h6,h7⟩
   ·rcases ha with ⟨_,_,_,_,h6,_⟩ | ⟨_,a,rfl⟩
    ·rw [h0] at h6; cases h6
    exact ⟨R.len hx (hT _ _ hf).2.1,⟨by simp,by simp⟩⟩
   rcases ha with ⟨_,_,_,_,h8,rfl⟩ | ⟨h8,_⟩
   ·rw [h2] at h8; cases h8;exact ⟨R.len hx (hT _ _ hf).2.1,hmax _ (Nat.le_trans h6 h7)⟩
   rw [h2] at h8; cases h8
  cases h
 ·rename_i id off len e so sz z hf;split at h
  ·rename_i t0 s xs hH;cases h;rcases ha with ⟨g,cap,L,zz,h1,h2,rfl⟩ | ⟨_,_,rfl,a,rfl⟩
   ·refine ⟨R.len hx (hT _ _ hf).2.1,?_⟩;rcases bl hR hH with ⟨h0,_⟩ | ⟨g',cap',cells,sp,h3,_,_,_,h6,h7⟩
    ·rw [h0] at h1; cases h1
    grind
   exact ⟨R.len hx (hT _ _ hf).2.1,⟨by simp,by simp⟩⟩
  cases h
 ·rename_i cs e so sz z hf;cases h;obtain ⟨us,h1,A,rfl,h2,_⟩:=ha;have hl:=h1.length;rw [hl];exact ⟨R.len hx (hT _ _ hf).2.1,⟨by omega,by omega⟩⟩
 cases h
end
end Go.Proofs.YticbaadnibdbkaaGreat
namespace Go.Proofs.YticbaadnibdbkaaGreat
open Go.RowKit
open Go.MapKept (IsKey run_checkKey run_findKey run_setObj_map heap_set heap_alloc run_keyThatStays)
theorem om {k:Int}:∀ {l:List MapEntry} {i:Nat},(∀ e ∈ l,∃ k,e.key = .int .i64 k) ->
  (∃ j e,l[j]? = some e/\e.key = .int .i64 k/\Instr.findNow (.int .i64) (.int .i64 k) l i=some (some (i+j,e.val))/\getM k l=some e.val /\
   ∀ v q,getM q (l.modify j fun e=>{ e with key:=.int .i64 k,val:=v })=if q=k then some v else getM q l) \/
  (Instr.findNow (.int .i64) (.int .i64 k) l i=some none/\getM k l=none/\∀ v q b,getM q (l++[{ key:=.int .i64 k,val:=v,born:=b }])=if q=k then some v else getM q l)
 | [],i,_=>.inr ⟨rfl,rfl,fun v q b=>by
   by_cases hq:q=k
   ·subst hq; simp [getM,oE]
   have:¬ (k=q):=fun h=>hq h.symm;simp [getM,oE,hq,this]⟩
 | e :: l,i,h=>by
  obtain ⟨k0,hk⟩:=h e (by simp);have hr:=fun x hx=>h x (acb _ hx);by_cases hkk:k=k0
  ·subst hkk;refine .inl ⟨0,e,rfl,hk,?_,?_,fun v q=>?_⟩
   ·simp [Instr.findNow,hk,Instr.sameNow]
   ·simp [getM,oE,hk]
   by_cases hq:q=k
   ·subst hq; simp [getM,oE]
   have hq2:¬ (k=q):=fun h=>hq h.symm;simp [getM,oE,hk,hq,hq2]
  have hb:(k == k0)=false:=by simpa using hkk
  have hb2:¬ (k0=k):=fun h=>hkk h.symm;rcases om (k:=k) (i:=i+1) hr with ⟨j,e',h1,h2,h3,h3b,h4⟩ | ⟨h1,h2,h3⟩
  ·refine .inl ⟨j+1,e',h1,h2,?_,?_,fun v q=>?_⟩
   ·simp [Instr.findNow,hk,Instr.sameNow,hb,h3]; omega
   ·simp [getM,oE,hk,hb2,h3b]
   by_cases hq:q=k0
   ·subst hq;simp [getM,oE,hk,hb2]
   have hq2:¬ (k0=q):=fun h=>hq h.symm;have:=h4 v q;simp [getM,oE,hk,hq2];grind
  refine .inr ⟨?_,?_,fun v q b=>?_⟩
  ·simp [Instr.findNow,hk,Instr.sameNow,hb,h1]
  ·simp [getM,oE,hk,hb2,h2]
  by_cases hq:q=k0
  ·subst hq;simp [getM,oE,hk,hb2]
  have hq2:¬ (k0=q):=fun h=>hq h.symm;have:=h3 v q b;simp [getM,oE,hk,hq2];simpa using this
section
variable {P:Program} {n:Nat} {F:Fr} {w:World} {x y z':Operand} {t ty kt et:TypeId} {g c:Nat} {k:Int} {a:Array MapEntry}
theorem R.qe {z:Value} (ok:Bool) (hx:ev F x=some (.map (some g))) (hy:ev F y=some (.int .i64 k)) (hm:P.underlying t=some (.map kt et)) (hk:P.underlying kt=some (.int .i64)) (hz:(P.info? et).bind (·.zero)=some z) (hg:w.heap[g]? = some (.map a c)) (hl:∀ e ∈ a.toList,∃ k,e.key = .int .i64 k) :
  aD P n F w (.lookup t x y ok) ty (if ok then .tuple #[(getM k a.toList).getD z,.bool (getM k a.toList).isSome] else (getM k a.toList).getD z) w:=fun a' _ _ _ _ ha=>by
 have hik:IsKey (.int .i64) (.int .i64 k):=rfl;have e2:(zeroValue et).run P w = .ok z w:=by
  cases hq:P.info? et with
  | none=>simp [hq] at hz
  | some i=>simp [hq] at hz; simp [zeroValue,typeInfo,hq,hz]
 have e:(Instr.lookup t (.map (some g)) (.int .i64 k) ok).run P w = .ok (if ok then .tuple #[(getM k a.toList).getD z,.bool (getM k a.toList).isSome] else (getM k a.toList).getD z) w:=by
  unfold Instr.lookup;simp only [Sem.run_bind,run_underlying hm];rcases om (k:=k) (i:=0) hl with ⟨j,e0,_,_,h1,h2,_⟩ | ⟨h1,h2,_⟩
  ·simp only [Sem.run_bind,MapKept.run_getObj_map hg,Result.andThen,Sem.run_pure,run_checkKey hk hik,run_findKey hk h1];grind
  simp only [Sem.run_bind,MapKept.run_getObj_map hg,Result.andThen,Sem.run_pure,run_checkKey hk hik,run_findKey hk h1];grind
 simp [execOp,ha.ev hx,ha.ev hy,e]
theorem R.sF:aD P n F w (.makeMap t none) ty (.map (some w.heap.size)) (w.alloc (.map #[] 0)):=fun a _ _ _ _ ha=>by
 simp [execOp,Instr.makeMap]
theorem PD {v:Value} (hx:ev F x=some (.map (some g))) (hy:ev F y=some (.int .i64 k)) (hv:ev F z' = some v) (hm:P.underlying t=some (.map kt et)) (hk:P.underlying kt=some (.int .i64)) (hg:w.heap[g]? = some (.map a c)) (hl:∀ e ∈ a.toList,∃ k,e.key = .int .i64 k) :
  ∃ w' a' c',(gG P n F w (.insert t x y z') ty w' /\ gG P n F w (.mapUpdate t x y z') ty w')/\Kp [g] w w' /\ w'.heap[g]? = some (.map a' c')/\(∀ e ∈ a'.toList,∃ k,e.key = .int .i64 k)/\∀ q,getM q a'.toList=if q=k then some v else getM q a.toList:=by
 have hik:IsKey (.int .i64) (.int .i64 k):=rfl;have fin:∀ a' c',(Instr.mapUpdate t (.map (some g)) (.int .i64 k) v).run P w = .ok () { w with heap:=w.heap.setIfInBounds g (.map a' c') }->(∀ e ∈ a'.toList,∃ k,e.key = .int .i64 k)->(∀ q,getM q a'.toList=if q=k then some v else getM q a.toList) ->
   ∃ w' a' c',(gG P n F w (.insert t x y z') ty w' /\ gG P n F w (.mapUpdate t x y z') ty w')/\Kp [g] w w' /\ w'.heap[g]? = some (.map a' c')/\(∀ e ∈ a'.toList,∃ k,e.key = .int .i64 k)/\∀ q,getM q a'.toList=if q=k then some v else getM q a.toList:=by
  intro a' c' e h1 h2;have hs:=heap_set (o':=.map a' c') hg;refine ⟨{ w with heap:=w.heap.setIfInBounds g (.map a' c') },a',c',⟨fun a'' _ _ _ _ ha=>?_,fun a'' _ _ _ _ ha=>?_⟩,⟨rfl,rfl,rfl,by simp,fun i hi hn=>hs.2 i (by simpa using hn)⟩,by simpa using hs.1,h1,h2⟩
  ·simp [execOp,ha.ev hx,ha.ev hy,ha.ev hv,e]
  simp [execOp,ha.ev hx,ha.ev hy,ha.ev hv,e]
 rcases om (k:=k) (i:=0) hl with ⟨j,e0,hj,he,h1,_,h2⟩ | ⟨h1,_,h3⟩
 ·have hj':a[j]? = some e0:=by simpa using hj
  refine fin (a.modify j fun e=>{ e with key:=.int .i64 k,val:=v }) c ?_ ?_ ?_
  ·rw [ac_] at h1;simp [Instr.mapUpdate,run_underlying hm,MapKept.run_getObj_map hg,run_checkKey hk hik,run_findKey hk h1,hj',he,run_keyThatStays hik,run_setObj_map _ hg,Result.andThen]
  ·intro e hem;rcases MapFrom.mem_modify hem with h | ⟨e',_,rfl⟩
   ·exact hl e h
   grind
  grind
 refine fin (a.push { key:=.int .i64 k,val:=v,born:=c }) (c+1) ?_ ?_ ?_
 ·simp [Instr.mapUpdate,run_underlying hm,MapKept.run_getObj_map hg,run_checkKey hk hik,run_findKey hk h1,run_setObj_map _ hg,Result.andThen]
 ·grind
 grind
end
section
variable {c:Cx} {ρ:List RE} {s:Sh} {x:den s} {v:Value}
theorem Mp {s:Sh} (h:s.oc=false) (x:den s):∃ a,cellsOf s x=[a]:=by
 cases s <;> first | exact ⟨_,rfl⟩ | cases h
theorem V1.rt (h:V1 c s x v):cO c ρ (II s x) v:=by
 obtain ⟨vs,h1,⟨h2,rfl⟩ | ⟨h2,rfl⟩⟩:=h
 ·simp only [II,h2]; exact ⟨vs,rfl,fU h1⟩
 obtain ⟨a,ha⟩:=Mp h2 x;simp only [II,h2,ha];rw [ha] at h1;cases h1 with | cons h1 _=>exact kN h1
theorem V1.zero {z:Value} {zs:List Value} (hz:A_ (cellsOf s (ao s)) zs=true) (h:(s.oc=true/\z = .agg zs.toArray)\/(s.oc=false/\zs=[z])):V1 c s (ao s) z:=
 ⟨zs,jE (ρ:=[]) (oZ s _) (jk hz),h⟩
end
end Go.Proofs.YticbaadnibdbkaaGreat
namespace Go.Proofs.YticbaadnibdbkaaGreat
open Go.RowKit
def jf:Value->Lit
 | .int k n=>.int k n
 | .bool b=>.bool b
 | .string s=>.string s.data.toList
 | _=>.bool false
def aaD (k:LK) (v:Value):Prop:=match k,v with
 | .i q,.int q' n=>q' = q/\(Lit.int q n).wf=true
 | .b,.bool _=>True
 | .s,.string s=>s.size<=maxLen
 | _,_=>False
def jQ:List LK->List Value->Prop
 | [],[]=>True
 | k :: r,v :: l=>aaD k v/\jQ r l
 | _,_=>False
theorem jQ.len:∀ {ks:List LK} {vs:List Value},jQ ks vs->vs.length=ks.length
 | [],[],_=>rfl
 | _ :: _,_ :: _,h=>by rw [List.length_cons,List.length_cons,jQ.len h.2]
theorem jQ.split:∀ {ks l:List LK} {vs:List Value},jQ (ks++l) vs->jQ ks (vs.take ks.length)/\jQ l (vs.drop ks.length)
 | [],_,_,h=>⟨trivial,h⟩
 | _ :: ks,l,_ :: vs,h=>by
  obtain ⟨h1,h2⟩:=jQ.split (ks:=ks) h.2;exact ⟨⟨h.1,h1⟩,h2⟩
section
variable {P:Program}
theorem uu {g:TypeId->Option (List LK)} {d:Nat} (hg:∀ t ks vs,g t=some ks->jQ ks vs->P.keyLits d t vs=some (vs.map jf)) {cs:List Value}:∀ {F:List Go.Field} {o:Nat} {ks:List LK},P_ P g F o=some ks->jQ ks (cs.drop o) ->
  (F.mapM fun f=>P.keyLits d f.type ((cs.drop f.offset).take (P.cellsOf f.type))).map List.flatten=some ((cs.drop o).map jf)/\(∀ f ∈ F,(f.name != "_")=true)
 | [],o,ks,h,k=>by
  cases h;have:cs.drop o=[]:=by
   have h1:=jQ.len k;grind
  grind
 | f :: F,o,ks,h,k=>by
  simp only [P_] at h;split at h
  ·rename_i k1 hk1;split at h
   ·rename_i l hb hl;cases h;simp only [Bool.and_eq_true] at hb;obtain ⟨k2,k3⟩:=jQ.split k;rw [agl] at k3;obtain ⟨e1,e2⟩:=uu hg hl k3;refine ⟨?_,fun x hx=>?_⟩
    ·simp only [adg] at e1 ⊢;obtain ⟨L,e3,e4⟩:=e1;refine ⟨((cs.drop o).take k1.length).map jf :: L,?_,?_⟩
     ·grind
     rw [List.flatten_cons,e4,<- List.map_append,<- agl,List.take_append_drop]
    grind
   cases h
  cases h
theorem oJ:∀ (d:Nat) (t:TypeId) (ks:List LK) (vs:List Value),JD P d t=some ks->jQ ks vs->P.keyLits d t vs=some (vs.map jf)
 | 0,_,_,_,h,_=>by cases h
 | d+1,t,ks,vs,h,k=>by
  unfold JD at h;unfold Program.keyLits;split at h
  ·rename_i q hu;cases h;match vs,k with
   | [.int q' n],⟨⟨h1,h2⟩,_⟩=>subst h1; simp [hu,h2,jf]
  ·rename_i hu;cases h;match vs,k with
   | [.bool b],_=>simp [hu,jf]
  ·rename_i hu;cases h;match vs,k with
   | [.string s],⟨h1,_⟩=>
    have h1:s.size<=maxLen:=h1;simp [hu,jf,h1]
  ·rename_i F hu;split at h
   ·rename_i l hl;split at h
    ·rename_i hd;cases h;have hd:=ac6 hd;have hlen:=jQ.len k;obtain ⟨e1,e2⟩:=uu (fun t ks vs=>oJ d t ks vs) (cs:=vs) (o:=0) hl (by simpa using k);have ha:F.all (·.name != "_")=true:=by
      rw [Array.all_eq_true_iff_forall_mem];intro f hf;exact e2 f (Array.mem_toList_iff.2 hf)
     have hc:vs.length=P.cellsOf t/\F.all (·.name != "_")=true:=⟨by rw [hlen,hd],ha⟩;rw [hu];split
     ·rename_i e; cases e
     ·rename_i e; cases e
     ·rename_i e; cases e
     ·rename_i e; cases e
     ·grind
     grind
    cases h
   cases h
  cases h
theorem mF {c:Cx} {ρ:List RE}:∀ {asx:List AV} {vs:List Value} {ks:List LK},Tm asx=some ks->All2 (Rd c ρ) asx vs->jQ ks vs
 | [],_,_,h,k=>by cases h; cases k; trivial
 | a :: r,_,ks,h,k=>by
  cases k with
  | cons k1 k2=>
   simp only [Tm] at h;split at h
   ·rename_i q l hq hl;cases h;refine ⟨?_,mF hl k2⟩;cases a <;> cases hq
    ·cases k1 with | int hI=>exact ⟨rfl,by unfold I64 at hI; simp [Lit.wf,IntKind.min,IntKind.bits,IntKind.signed]; omega⟩
    ·rename_i b;have:=b.toNat_lt;cases k1 with | u8=>exact ⟨rfl,by simp [Lit.wf,IntKind.min,IntKind.max,IntKind.bits,IntKind.signed]; omega⟩
    ·cases k1 with | u64 hI=>exact ⟨rfl,by simp [Lit.wf,IntKind.min,IntKind.max,IntKind.bits,IntKind.signed]; omega⟩
    ·cases k1 with | bool=>trivial
    cases k1 with | str hI=>exact (by simp [aaD,Str.val,maxLen,ByteArray.size]; omega)
   cases h
variable {ρ:List RE}
theorem yL {c:Cx} {a b:AV} {u v:Value} {e:BE} (h:Tb a b=some e) (ha:Rd c ρ a u) (hb:Rd c ρ b v):e.val=true↔jf u=jf v:=by
 unfold Tb at h;split at h <;> cases h
 ·cases ha; cases hb; simp [BE.val,jf]
 ·cases ha; cases hb; simp [BE.val,jf]
 ·cases ha; cases hb; simp [BE.val,jf]
 ·cases ha; cases hb; simp [BE.val,jf]
 rename_i s s';cases ha; cases hb;cases s; cases s';simp [BE.val,jf,Str.val]
theorem q_ {c:Cx} {ρ:List RE}:∀ {asx bs:List AV} {us vs:List Value} {e:BE},FG asx bs=some e->All2 (Rd c ρ) asx us->All2 (Rd c ρ) bs vs->(e.val=true↔us.map jf=vs.map jf)
 | [],[],_,_,_,h,ha,hb=>by cases h; cases ha; cases hb; simp [BE.val]
 | [a],[b],_,_,_,h,ha,hb=>by
  cases ha with | cons ha1 ha2=>cases ha2; cases hb with | cons hb1 hb2=>cases hb2; simpa using yL h ha1 hb1
 | [a],b :: b2 :: l,_,_,_,h,_,_=>by
  simp only [FG] at h;grind
 | a :: a2 :: r,[b],_,_,_,h,_,_=>by
  simp only [FG] at h;grind
 | a :: a2 :: r,b :: b2 :: l,_,_,_,h,ha,hb=>by
  simp only [FG] at h;split at h
  ·rename_i x y h1 h2;cases h;cases ha with | cons ha1 ha2=>
   cases hb with | cons hb1 hb2=>
   have e1:=yL h1 ha1 hb1;have e2:=q_ h2 ha2 hb2;simp only [BE.val,Bool.and_eq_true,e1,e2,ae9,List.cons.injEq]
  cases h
variable {w:World} {t:TypeId}
theorem Fa {ks:List LK} {xs ys:List Value} (h:eqB P t ks=true) (hx:jQ ks xs) (hy:jQ ks ys) (hs:∃ F,P.underlying t=some (.struct F)) :
  P.eqGuardType P.depth t=false/\∃ r:Bool,(Op.equalIn 10000 t (.agg xs.toArray) (.agg ys.toArray)).run P w = .ok r w/\(r=true↔xs.map jf=ys.map jf):=by
 simp only [eqB,Bool.and_eq_true,decide_eq_true_eq,adu] at h;obtain ⟨⟨h1,h2⟩,h3⟩:=h;obtain ⟨F,hF⟩:=hs;have hc:P.cellsOf t=ks.length:=by
  unfold JD at h1;grind
 refine ⟨h3,?_⟩;have:=run_equalIn_deep (P:=P) 9992 8 t h2 w 8 8 (.agg xs.toArray) (.agg ys.toArray) (xs.map jf) (ys.map jf)
  (by simp [Value.formed,hF,hc,hx.len]) (by simp [Value.formed,hF,hc,hy.len])
  (by simpa [Value.cells] using oJ 8 t ks xs h1 hx) (by simpa [Value.cells] using oJ 8 t ks ys h1 hy)
 exact this
theorem PK {T:List (Nat × TI)} {G:Gl} {n:Nat} {F:Fr} {x y:Operand} {ty t':TypeId} {c:Cx} (hT:aY P G.shp T) {op:BinOp} {asx bs:List AV} {r:PR} {us vs:List Value} (h:eqG T op t asx bs=some r) (ha:All2 (Rd c ρ) asx us) (hb:All2 (Rd c ρ) bs vs) (hx:ev F x=some (.agg us.toArray)) (hy:ev F y=some (.agg vs.toArray)) :
  ∃ v,aD P n F w (.binOp op t x y t') ty v w/\Rt c ρ r.v v/\r.fc=[]:=by
 unfold eqG at h;split at h
 ·rename_i fs sz z ht;obtain ⟨Fs,hF,_,_,hE,_⟩:=(hT _ _ ht).2;split at h
  ·rename_i k k1 k2 hk hk1 hk2;have hq:=hE _ hk;split at h
   ·rename_i e hd he;simp only [Bool.and_eq_true,decide_eq_true_eq] at hd;obtain ⟨rfl,rfl⟩:=hd;cases h;obtain ⟨hg,b,hb1,hb2⟩:=Fa (w:=w) hq (mF hk1 ha) (mF hk2 hb) ⟨Fs,hF⟩;have e1:b=e.val:=ahi.2 (hb2.trans (q_ he ha hb).symm);subst e1;refine ⟨_,fun _ _ _ _ _ hm=>?_,Pd.bool (e:=e),rfl⟩;simp [execOp,hm.ev hx,hm.ev hy,run_eqGuard_agg w .eql t x y _ _ hg,run_eql_struct,hb1]
   ·rename_i e hd he;simp only [Bool.and_eq_true,decide_eq_true_eq] at hd;obtain ⟨rfl,rfl⟩:=hd;cases h;obtain ⟨hg,b,hb1,hb2⟩:=Fa (w:=w) hq (mF hk1 ha) (mF hk2 hb) ⟨Fs,hF⟩;have e1:b=e.val:=ahi.2 (hb2.trans (q_ he ha hb).symm);subst e1;refine ⟨_,fun _ _ _ _ _ hm=>?_,Pd.bool (e:=.not e),rfl⟩;simp [execOp,hm.ev hx,hm.ev hy,run_eqGuard_agg w .neq t x y _ _ hg,run_neq_struct,hb1,BE.val]
   cases h
  cases h
 cases h
end
section
variable {P:Program} {T:List (Nat × TI)} {G:Gl} {O:bD} {n:Nat} {F:Fr} {w:World} {x y:Operand} {ty t t':TypeId} {ρ:List RE} {H:AH}
variable {m:Nat}
theorem dM (h:m<18446744073709551616):IntKind.i64.wrap (m:Int)=eE m:=by
 unfold eE;simp only [IntKind.wrap,IntKind.bits,IntKind.signed];grind
theorem Io (h:m<18446744073709551616):I64 (eE m):=by
 unfold eE I64; split <;> omega
variable {r:PR} {op:Op}
theorem y0 {v:Value} (h:aD P n F w op ty v w) (hr:Rt (cx G ρ w) ρ r.v v) (hf:∀ p ∈ r.fc,p):Yields P n F w op ty fun v w'=>Kp [] w w' /\ Rt (cx G ρ w') ρ r.v v/\∀ p ∈ r.fc,p:=
 .inl ⟨v,w,h,Kp.refl w,hr,hf⟩
theorem r_ (h:r.fc=[]):∀ p ∈ r.fc,p:=by rw [h]; simp
variable {va:Value} {u:AV} {b:TI}
theorem Jc (hT:aY P G.shp T) (hR:Rep G ρ H w) {a:TI} (ht:aQ T t=some a) (ht':aQ T t' = some b) (h:Mt H a.k b.k u=some r) (hob:∀ p ∈ r.ob,p) (ha:Rd (cx G ρ w) ρ u va) (hx:ev F x=some va) :
  Yields P n F w (.convert t t' x) ty fun v w'=>Kp [] w w' /\ Rt (cx G ρ w') ρ r.v v/\∀ p ∈ r.fc,p:=by
 have hs:=(hT _ _ ht).2;have hd:=(hT _ _ ht').2;unfold Mt at h;split at h
 ·rename_i k1 k2 m e1 e2;rw [e1] at hs; rw [e2] at hd;cases h;cases ha with | int hI=>
  have:=R.conv (P:=P) (n:=n) (w:=w) (ty:=ty) hx hs hd
  rw [hI.wrap] at this;exact y0 this (Pd.int hI) (by simp)
 ·rename_i k1 k2 m e1 e2;rw [e1] at hs; rw [e2] at hd;cases h;cases ha with | u8=>
  have hm:=m.toNat_lt;exact y0 (R.Xd hx hs hd) (Pd.int ⟨by omega,by omega⟩) (by simp)
 ·rename_i k1 k2 m e1 e2;rw [e1] at hs; rw [e2] at hd;cases h;cases ha with | u8=>
  have hm:=m.toNat_lt;exact y0 (R.Lx hx hs hd aK) (Pd.u64 aK) (by simp)
 ·rename_i k1 k2 m e1 e2;rw [e1] at hs; rw [e2] at hd;cases h;cases ha with | int hI=>
  have h0:=hob _ (ab3 _);obtain ⟨m,rfl⟩:=ab9 h0;exact y0 (R.XP hx hs hd) Pd.u8 (by simp)
 ·rename_i k1 k2 m e1 e2;rw [e1] at hs; rw [e2] at hd;cases h;cases ha with | int hI=>
  have h0:=hob _ (ab3 _);obtain ⟨m,rfl⟩:=ab9 h0;have:m<18446744073709551616:=by have:=hI.2; omega
  exact y0 (R.Lx hx hs hd this) (Pd.u64 this) (by simp)
 ·rename_i k1 k2 m e1 e2;rw [e1] at hs; rw [e2] at hd;cases h;cases ha with | u64 hI=>
  exact y0 (R.XP hx hs hd) Pd.u8 (by simp)
 ·rename_i k1 k2 m e1 e2;rw [e1] at hs; rw [e2] at hd;cases h;cases ha with | u64 hI=>
  have:=R.conv (P:=P) (n:=n) (w:=w) (ty:=ty) hx hs hd
  rw [dM hI] at this;exact y0 this (Pd.int (Io hI)) (by simp)
 ·rename_i k1 k2 m e1 e2;rw [e1] at hs; rw [e2] at hd;cases h;cases ha with | u64 hI=>
  exact y0 (R.Lx hx hs hd hI) (Pd.u64 hI) (by simp)
 ·rename_i k1 k2 e v1 e1 e2;rw [e1] at hs; rw [e2] at hd;obtain ⟨hs1,hs2⟩:=hs;obtain ⟨_,_,he⟩:=hs2 .u8 rfl;split at h
  ·rename_i xs hv;cases h;have hrd:=DB hR hv ha;refine y0 (R.I_ rfl hx hs1 hd (he rfl).1 hrd) (Pd.str ?_) (by simp);have:=hrd.le;simp only [Sh.bytes] at this;show xs.length<=_;omega
  ·rename_i b hv;cases h;obtain ⟨q,ha,hv⟩:∃ q,Rd (cx G ρ w) ρ q va/\q.vw H = .em b:=⟨_,ha,hv⟩;cases q <;> simp only [AV.vw] at hv;case em=>
    have hrd:Sread (cx G ρ w) .u8 [] va:=Pd.Tn (Pd.Bs ha) fun b hb=>hb.1;exact y0 (R.I_ rfl hx hs1 hd (he rfl).1 hrd) (Pd.str (by simp)) (by simp)
   case own=>split at hv <;> cases hv
   case sub=>split at hv <;> cases hv
   all_goals cases hv
  cases h
 ·rename_i k1 e s e1 e2;rw [e1] at hs; rw [e2] at hd;obtain ⟨hd1,hd2⟩:=hd;obtain ⟨hshp,_,he⟩:=hd2 .u8 rfl;cases h;cases ha with | str hl=>
  obtain ⟨a,k,w',hrun,hk,h1,h2,h3,h4,h5,C,fz,h6⟩:=R.MA (P:=P) (n:=n) (fr:=F) (w:=w) (x:=x) (ty:=ty) (t:=t) (t':=t') (s:=s) hx hl hs hd1 (he rfl).1;refine .inl ⟨_,w',hrun,hk,?_,by simp⟩;have hp:Pds (cx G ρ w') (s.b.flatMap (cellsOf .u8)) (s.b.map fun b=>Value.int .u8 (b.toNat:Int)):=by
   generalize s.b=l;induction l with
   | nil=>exact .nil
   | cons b l ih=>exact .cons .u8 ih
  exact Pd.fz (s:=.u8) (xs:=s.b) h1 h2 (by simpa [Sh.bytes] using hl) hp (.inr ⟨_,h3,⟨⟨h4,fun ⟨i,r,e1,e2⟩=>by have:=(hR.bnd i r _ e1 e2).2.1; simp at this,fun hz=>by have:=hR.z _ hz; simp at this⟩,.inr ⟨C,e,fz,h6,hshp,(fun e=>nomatch e)⟩⟩,h5⟩)
 cases h
theorem GK (off:Nat):∀ (us:List Value) (j:Nat) (a b:List Value),us.length<=b.length->a.length=off+j ->
  (us.zipIdx j).foldl (fun cs (c:Value × Nat)=>cs.setIfInBounds (off+c.2) c.1) (a++b).toArray=(a++us++b.drop us.length).toArray:=by
 intro us;induction us with
 | nil=>intro j a b _ _; simp
 | cons u us ih=>
  intro j a b hb ha;cases b with
  | nil=>simp at hb
  | cons b0 b=>
   simp only [List.zipIdx_cons,List.foldl_cons];have:((a++b0 :: b).toArray.setIfInBounds (off+j) u)=((a++[u])++b).toArray:=by simp [<- ha]
   rw [this,ih (j+1) (a++[u]) b (by simpa using hb) (by simp [ha]; omega)];simp
theorem oI {c:Cx} {fs:List (Nat × Nat)} {place:Nat->Option (Nat × Nat)} (hpl:∀ (i:Nat) (q:Nat × Nat),fs[i]? = some q->place i=some q):∀ {parts:List (Nat × TV1)} {pv:List (Nat × Value)} {z:List AV} {zs:List Value} {cs:List AV},All2 (fun p q=>p.1=q.1/\cO c ρ p.2 q.2) parts pv->All2 (Rd c ρ) z zs->kj fs z parts=some cs ->
  ∃ us,Instr.fill place zs.toArray pv=some (List.toArray us)/\All2 (Rd c ρ) cs us
 | [],_,z,zs,cs,hp,hz,h=>by
  cases hp;cases h;exact ⟨zs,rfl,hz⟩
 | (i,v) :: r,_,z,zs,cs,hp,hz,h=>by
  cases hp with
  | @cons _ q _ qs h1 h2=>
  obtain ⟨i',u⟩:=q;obtain ⟨e,hv⟩:=h1;simp only at e; subst e;simp only [kj] at h;split at h
  ·rename_i o k hfs;split at h
   ·rename_i hck;simp only [Bool.and_eq_true] at hck;have e1:v.cells.length=k:=abk hck.1;have e2:=adl hck.2;obtain ⟨us,hus,hcells⟩:=cO.cells hv;have hlen:v.cells.length=us.length:=hcells.length;have hzl:=hz.length;have hov:All2 (Rd c ρ) (over z o v.cells) (zs.take o++us++zs.drop (o+us.length)):=by
     unfold over;rw [<- hlen];exact ((hz.take o).append hcells).append (hz.drop _)
    obtain ⟨us',h3,h4⟩:=oI hpl h2 hov h;refine ⟨us',?_,h4⟩;simp only [Instr.fill,hpl _ _ hfs,hus];have hfold:(us.toArray.zipIdx.foldl (fun cs (c:Value × Nat)=>cs.setIfInBounds (o+c.2) c.1) zs.toArray)=(zs.take o++us++zs.drop (o+us.length)).toArray:=by
     have h5:=GK o us 0 (zs.take o) (zs.drop o) (by simp; omega) (by simp; omega);rw [List.take_append_drop,agl] at h5;rw [<- h5];simp
    rw [if_neg (by simp; omega)];refine Eq.trans ?_ h3;congr 1
   cases h
  cases h
variable {cs z:List AV} {l:List (Nat × TV1)} {parts:List (Nat × Operand)} {sz:Nat}
theorem FF (hT:aY P G.shp T) {c:Cx} {fs:List (Nat × Nat)} {pv:List (Nat × Value)} (ht:aQ T t=some ⟨.st fs,sz,z⟩) (hp:Ju F parts=some pv) (hl:All2 (fun p q=>p.1=q.1/\cO c ρ p.2 q.2) l pv) (h:kj fs z l=some cs) :
  ∃ us,aD P n F w (.build t parts.toArray) ty (.agg (List.toArray us)) w/\All2 (Rd c ρ) cs us:=by
 obtain ⟨⟨hsz,zs,hz,hzb⟩,Fs,hu,hm,_⟩:=hT _ _ ht;obtain ⟨us,h1,h2⟩:=oI (place:=(fs.toArray[·]?)) (fun i q hq=>by simpa using hq) hl (jk hzb) h;refine ⟨us,R.ox hp ?_,h2⟩;unfold Program.built;cases hq:P.info? t with
 | none=>rw [hq] at hz; simp at hz
 | some i=>
  simp only [adg] at hz;grind
variable {e:TypeId}
theorem wj {s:Sh} (hT:aY P G.shp T) (h:Ws T e=some s):s.size=1/\(P.info? e).map (·.size)=some 1/\∃ d,P.underlying e=some d/\jO d=false:=by
 unfold Ws at h;split at h <;> cases h <;> rename_i hf <;> obtain ⟨⟨h1,_⟩,h2⟩:=hT _ _ hf <;> exact ⟨rfl,h1,_,h2,rfl⟩
theorem ud:∀ {n k i:Nat} {q:Nat × Nat},(lV k n)[i]? = some q->q=(k+i,1)
 | n+1,k,0,q,h=>by simp [lV] at h; exact h.symm
 | n+1,k,i+1,q,h=>by
  rw [lV,agO] at h;rw [ud h,show k+1+i=k+(i+1) by omega]
theorem rK (hT:aY P G.shp T) {c:Cx} {pv:List (Nat × Value)} (ht:aQ T t=some ⟨.ar m e,sz,z⟩) (hes:(P.info? e).map (·.size)=some 1) (hp:Ju F parts=some pv) (hl:All2 (fun p q=>p.1=q.1/\cO c ρ p.2 q.2) l pv) (h:kj (lV 0 m) z l=some cs) :
  ∃ us,aD P n F w (.build t parts.toArray) ty (.agg (List.toArray us)) w/\All2 (Rd c ρ) cs us:=by
 obtain ⟨⟨hsz,zs,hz,hzb⟩,hu⟩:=hT _ _ ht;obtain ⟨us,h1,h2⟩:=oI (place:=fun i=>some (i*1,1)) (fun i q hq=>by rw [ud hq]; simp) hl (jk hzb) h;refine ⟨us,R.ox hp ?_,h2⟩;unfold Program.built;cases hq:P.info? t with
 | none=>rw [hq] at hz; simp at hz
 | some i=>
  simp only [adg] at hz;cases hqe:P.info? e with
  | none=>rw [hqe] at hes; cases hes
  | some ie=>
   grind
theorem ni {c:Cx}:∀ {l:List TV1} {q:List (Nat × Nat)} {vs:List Value},kP l=some q->All2 (cO c ρ) l vs->All2 (dP ρ) q vs
 | [],_,_,h,hv=>by cases h; cases hv; exact .nil
 | .c (.ptr id o) :: r,q,_,h,hv=>by
  simp only [kP] at h;split at h
  ·rename_i l hl;cases h;cases hv with
   | cons h1 h2=>exact .cons h1 (ni hl h2)
  cases h
 | .c a :: r,q,_,h,hv=>by
  cases a with
  | ptr id o=>
   simp only [kP] at h;split at h
   ·rename_i l hl;cases h;cases hv with
    | cons h1 h2=>exact .cons h1 (ni hl h2)
   cases h
  | _=>simp [kP] at h
theorem wA {c:Cx}:∀ {q:List (Nat × Nat)} {vs:List Value},All2 (dP ρ) q vs->All2 (cO c ρ) (q.map fun q=>.c (.ptr q.1 q.2)) vs
 | [],_,h=>by cases h; exact .nil
 | _ :: _,_,h=>by cases h with | cons h1 h2=>exact .cons h1 (wA h2)
variable {vs:List Value}
theorem E.HX {f:FuncId} {asx:Array TypeId} {fn:Func} {xs:List Operand} {b cap:List Value} {fr:Fr} (hx:ev fr x=some (.func (.func f) b.toArray cap.toArray)) (hvs:OB fr xs=some vs) (hf:P.funcs[f]? = some fn) (hn:(fn.name == "runtime.NumGoroutine")=false) (hb:fn.body.isNone=false) :
  Enters P n fr w (.call { callee:=.value x,args:=xs.toArray,argTypes:=asx }) ty f (b++(vs++cap)).toArray:=fun _ _ _ _ _ ha=>by
 simp [execOp,resolve,ha.ev hx,Deferred.ofValue,invoke,callFunc,hf,show ¬ fn.name = "runtime.NumGoroutine" by simpa using hn,show ¬ fn.body=none by intro h; simp [h] at hb,mS ha hvs]
theorem kJ {c:Cx} {fr:AFr} (hf:FrR c ρ fr F) {cl:Call} {f:Nat} {l:List TV1} (h:gW fr cl=some (f,l)):∃ x xs vs b cap,cl.callee = .value x/\cl.args=List.toArray xs/\ev F x=some (.func (.func f) (List.toArray b) (List.toArray cap))/\OB F xs=some vs/\All2 (cO c ρ) l (b++(vs++cap)):=by
 unfold gW at h;split at h
 ·rename_i x hc;split at h
  ·rename_i g b cs l' hx hl;cases h;obtain ⟨v,hv,bs,us,h1,h2,rfl⟩:=aq hf hx;obtain ⟨vs,h3,h4⟩:=kW hf hl;exact ⟨x,cl.args.toList,vs,bs,us,hc,by simp,hv,h3,(wA h1).append (h4.append (wA h2))⟩
  ·rename_i x' l' hx hl;split at h
   ·rename_i g;cases h;obtain ⟨v,hv,us,h1,h2,rfl⟩:=aq hf hx;obtain ⟨vs,h3,h4⟩:=kW hf hl;exact ⟨x,cl.args.toList,vs,[],[],hc,by simp,hv,h3,by simpa using h4⟩
   cases h
  cases h
 cases h
theorem Eu {s:Sh}:∀ {n k:Nat} {xs:List (den s)},k+n=xs.length->sG s xs k n=(xs.drop k).flatMap (cellsOf s)
 | 0,k,xs,h=>by rw [List.drop_eq_nil_of_le (by omega)]; rfl
 | n+1,k,xs,h=>by
  rw [sG,Eu (by omega),adz (show k<xs.length by omega),List.flatMap_cons,List.getD_eq_getElem?_getD,List.getElem?_eq_getElem (by omega)];rfl
theorem kv {c:Cx} {s:Sh}:∀ {cs:List AV} {xs:List (den s)} {us:List Value},qZ s cs=some xs->All2 (Rd c ρ) cs us->Pds c (xs.flatMap (cellsOf s)) us
 | [],_,_,h,hu=>by cases h; cases hu; exact .nil
 | a :: r,xs,_,h,hu=>by
  simp only [qZ] at h;split at h
  ·rename_i x l hx hl;cases h;cases hu with
   | cons h1 h2=>
    exact (aG (vs:=[_]) hx (.cons (fun hp=>(gS hp).1 h1) .nil)).append (kv hl h2)
  cases h
variable {i:Nat} {k:IntKind}
theorem R.jY {cs:List Value} {v:Value} {dd:TypeDesc} (hx:ev F x=some (.agg cs.toArray)) (hy:ev F y=some (.int k (i:Int))) (ht:P.underlying t=some (.array m e)) (he:P.underlying e=some dd) (hd:jO dd=false) (hs:(P.info? e).map (·.size)=some 1) (hi:i<m) (hv:cs[i]? = some v) :
  aD P n F w (.index t x y) ty v w:=fun _ _ _ _ _ ha=>by
 cases hq:P.info? e with
 | none=>simp [hq] at hs
 | some q=>
  have hq1:q.size=1:=by simpa [hq] using hs
  have e1:(Instr.index t (.agg cs.toArray) (.int k (i:Int))).run P w = .ok v w:=by
   unfold Instr.index;simp [asIntOf,run_underlying ht,hi,part,lq he,hd,sizeOf,typeInfo,hq,hq1,hv]
  simp [execOp,ha.ev hx,ha.ev hy,e1]
theorem R.gL {g:Nat} (hx:ev F x=some (.pointer (some ⟨g,0,none⟩))) (hy:ev F y=some (.int k (i:Int))) (ht:P.underlying t=some (.array m e)) (hs:(P.info? e).map (·.size)=some 1) (hi:i<m) :
  aD P n F w (.indexAddr t x y) ty (.pointer (some ⟨g,i,none⟩)) w:=fun _ _ _ _ _ ha=>by
 cases hq:P.info? e with
 | none=>simp [hq] at hs
 | some q=>
  have hq1:q.size=1:=by simpa [hq] using hs
  have h2:(Addr.add ⟨g,0,none⟩ i)=⟨g,i,none⟩:=by rw [add_lit,ac_]
  simp [execOp,ha.ev hx,ha.ev hy,Instr.indexAt,run_underlying ht,asIntOf,Instr.sureAddr,sizeOf,typeInfo,hq,hq1,h2];omega
variable {a:AV}
theorem LW {c:Cx} {s:Sh} {xs:List (den s)} {o:Nat} (h:Pds c (xs.flatMap (cellsOf s)) vs) (hs:s.size=1) (ho:o<xs.length) (ha:cellsOf s (xs.getD o (ao s))=[a]):∃ u,vs[o]? = some u/\Pd c a u:=by
 have h1:=(h.drop (o*s.size)).take s.size;rw [nn (mK ho),ha,hs,aht] at h1;generalize hq:List.take 1 (List.drop o vs)=q at h1;cases h1 with
 | @cons _ u _ q' h2 h3=>
  have:=congrArg (·[0]?) hq;grind
theorem pn (hT:aY P G.shp T) (hR:Rep G ρ H w) {v:Value} (h:Rd (cx G ρ w) ρ a v) (hx:ev F x=some v) (hl:qj T H t a=some r) (hob:∀ p ∈ r.ob,p):∃ u,aD P n F w (.load t x) ty u w/\Rt (cx G ρ w) ρ r.v u/\∀ p ∈ r.fc,p:=by
 unfold qj at hl;split at hl
 ·rename_i id o;split at hl
  ·rename_i ta s m xs hH;obtain ⟨r0,hr,g,vs,rfl,h2,h3,h4,h5⟩:=hR.at_ (bB hH (by simp));obtain ⟨g',hg',rfl⟩:=h;rw [hr] at hg'; cases hg';have hvl:vs.length=m:=by rw [<- h3.length,bR,h4,h5,aht]
   have hA:CellsAt w ⟨g,0,none⟩ vs:=cc (cells:=vs) (sp:=[]) (by rw [ade]; exact h2);split at hl
   ·rename_i m' e sz z hft;split at hl
    ·rename_i hck;cases hl;simp only [Bool.and_eq_true] at hck;have e1:=abk hck.1.1.1;have e2:=abk hck.1.1.2;have e3:=abk hck.1.2;subst e1; subst e2;obtain ⟨⟨hsz,_⟩,hk⟩:=hT _ _ hft;refine ⟨.agg vs.toArray,R.UG hx hk rfl (by rw [hsz,hvl]; exact congrArg some e3) hA,⟨vs,rfl,?_⟩,by simp⟩;rw [Eu (by omega),ahF];exact fU h3
    cases hl
   ·rename_i ti _ hft;split at hl
    ·cases hl
    ·cases hl
    ·cases hl
    ·rename_i a' hs1 hcell n1 n2 n3;simp only [pr,Option.some.injEq] at hl;subst hl;have ho:=hob _ (ab3 _);obtain ⟨u,hu,hpu⟩:=LW h3 h5 (by omega) hcell;obtain ⟨_,hk⟩:=hT _ _ hft;have:∃ d,P.underlying t=some d/\jO d=false:=by
      cases hkk:ti.k <;> rw [hkk] at hk;case i=>exact ⟨_,hk,rfl⟩
      case bool=>exact ⟨_,hk,rfl⟩
      case str=>exact ⟨_,hk,rfl⟩
      case sl=>exact ⟨_,hk.1,rfl⟩
      case st=>exact absurd hkk (n1 _)
      case ar=>exact absurd hkk (n2 _ _)
      case mp=>exact ⟨_,hk.1,rfl⟩
      case ifc=>exact ⟨_,hk,rfl⟩
      case ms=>exact ⟨_,hk.1,rfl⟩
      case mg=>exact ⟨_,hk.1,rfl⟩
      case ptr=>obtain ⟨e,hk⟩:=hk; exact ⟨_,hk,rfl⟩
      all_goals exact hk
     obtain ⟨d,hd,hag⟩:=this;have hcl:=hA o u hu;rw [add_lit,ac_] at hcl;exact ⟨u,R.TM hx hd hag hcl,kN hpu,hpu.oK⟩
    cases hl
   cases hl
  cases hl
 cases hl
theorem Wj {c:Cx} (h:TabsOK c) {e:TabE} (he:e ∈ Qt):Pd c (.fz e.s e.xs) (.slice (some ⟨e.g,0,none⟩) e.xs.length e.xs.length):=by
 obtain ⟨h1,h2,h3,h4,cells,t,fr,h5,h6⟩:=h.2 e he;refine .fz (ac5 _) h3 h4 h6 (.inr ⟨_,rfl,⟨h1,.inl h2⟩,?_⟩);exact cc (cells:=cells) (sp:=[]) (t:=t) (f:=fr) (by rw [ade]; exact h5)
theorem oP {g:Nat}:∀ {l:List TabE} {e:TabE},qb g l=some e->e ∈ l/\e.g=g
 | a :: l,e,h=>by
  unfold qb at h;cases hb:Nat.beq g a.g
  ·rw [hb,cond_false] at h;have:=oP h;grind
  simp_all
variable {i:Int}
theorem xp (hT:aY P G.shp T) (hR:Rep G ρ H w) (hy:ev F y=some (.int k i)) (hl:sL T t x i=some r) (hob:∀ p ∈ r.ob,p):∃ u,aD P n F w (.indexAddr t x y) ty u w/\Rt (cx G ρ w) ρ r.v u/\∀ p ∈ r.fc,p:=by
 unfold sL at hl;split at hl
 ·rename_i g;split at hl
  ·rename_i e m el sz z hg hft;split at hl
   ·rename_i s hs';split at hl
    ·rename_i hck;simp only [pr,Option.some.injEq] at hl;subst hl;simp only [Bool.and_eq_true,decide_eq_true_eq] at hck;have e1:=hck.1;have e2:=abk hck.2;have h0:=hob _ (ac7); have h1:=hob _ (acb _ (ab3 _));obtain ⟨j,rfl⟩:=ab9 h0;obtain ⟨hm,hg'⟩:=oP hg;have hj:j<e.xs.length:=by omega
     obtain ⟨A,kk,hA,_,hfe,us,hus⟩:=JH (ρ:=ρ) (Wj hR.tb hm) (mK hj);have hsz:=wj hT hs';cases hA;have ep:Addr.add ⟨e.g,0,none⟩ (j*e.s.size)=⟨g,j,none⟩:=by rw [hg',<- e1,hsz.1,add_lit,ac_,aht]
     rw [ep] at hfe;refine ⟨_,R.gL (g:=g) (i:=j) (by rfl) hy (hT _ _ hft).2 hsz.2.1 (by omega),?_,hus.oK⟩;rw [adm];exact hfe
    cases hl
   cases hl
  cases hl
 cases hl
theorem xX (hT:aY P G.shp T) (h:Am T e=true):(P.info? e).map (·.size)=some 1/\((P.info? e).bind (·.zero)).map Value.cells=some [Value.pointer none].toArray:=by
 unfold Am at h;split at h
 ·rename_i hft;obtain ⟨⟨hsz,zs,hz,hzb⟩,_⟩:=hT _ _ hft;refine ⟨hsz,hz.trans (congrArg (fun l:List Value=>some l.toArray) ?_)⟩;cases zs with
  | nil=>simp [A_] at hzb
  | cons v r=>
   cases r with
   | cons _ _=>simp [A_] at hzb
   | nil=>
    simp only [A_,Bool.and_true] at hzb;have h:=Ub (c:=⟨fun _=>none,0,fun _=>False,default⟩) (ρ:=[]) hzb;rw [h]
 cases h
theorem wK (hT:aY P G.shp T) {v:Value} (h:Rd (cx G ρ w) ρ a v) (hx:ev F x=some v) (hy:ev F y=some (.int k i)) (hl:gL T H t a i=some r) (hob:∀ p ∈ r.ob,p):∃ u,aD P n F w (.indexAddr t x y) ty u w/\Rt (cx G ρ w) ρ r.v u/\∀ p ∈ r.fc,p:=by
 unfold gL at hl;split at hl
 ·rename_i id m e sz z hft;split at hl
  ·rename_i ta s n' xs s' hH hs';split at hl
   ·rename_i hck;simp only [pr,Option.some.injEq] at hl;subst hl;simp only [Bool.and_eq_true] at hck;have e2:=abk hck.1;have h0:=hob _ (ac7); have h1:=hob _ (acb _ (ab3 _));obtain ⟨j,rfl⟩:=ab9 h0;obtain ⟨g,hg,rfl⟩:=h;exact ⟨_,R.gL hx hy (hT _ _ hft).2 (wj hT hs').2.1 (by omega),⟨g,hg,by rw [adm]⟩,by simp⟩
   cases hl
  cases hl
 ·rename_i cs e sz z hft;split at hl
  ·rename_i q hp hq;simp only [pr,Option.some.injEq] at hl;subst hl;have h0:=hob _ (ac7); have h1:=hob _ (acb _ (ab3 _));obtain ⟨j,rfl⟩:=ab9 h0;rw [adm] at hq;obtain ⟨us,hus,A,rfl,hl,hS,hA⟩:=h;have hlen:=hus.length;obtain ⟨u,hu,hcap⟩:=dC hus j q hq;refine ⟨_,R.jz (s:=1) hx hy (hT _ _ hft).2.1 (xX hT hp).1 rfl (by omega),⟨[u],.cons hcap .nil,A.add (j*1),rfl,by rw [fN]; exact hS,?_⟩,by simp⟩;have:=(hA.drop j).take 1;rw [adz (aam.1 hu).1,(aam.1 hu).2] at this;rw [aht];simpa using this
  cases hl
 cases hl
theorem vI (hT:aY P G.shp T) {c:Cx} {v:Value} (h:cO c ρ (.agg cs) v) (hx:ev F x=some v) (hy:ev F y=some (.int k i)) (hl:jY T t cs i=some r) (hob:∀ p ∈ r.ob,p):∃ u,aD P n F w (.index t x y) ty u w/\Rt c ρ r.v u/\∀ p ∈ r.fc,p:=by
 unfold jY at hl;split at hl
 ·rename_i m e sz z hft;split at hl
  ·rename_i s hs;split at hl
   ·rename_i xs hxs;split at hl
    ·rename_i a hlen hcell;simp only [pr,Option.some.injEq] at hl;subst hl;have hlen:=abk hlen;have h0:=hob _ (ac7); have h1:=hob _ (acb _ (ab3 _));obtain ⟨j,rfl⟩:=ab9 h0;obtain ⟨vs,rfl,hvs⟩:=h;obtain ⟨hs1,hes,d,hd,hag⟩:=wj hT hs;obtain ⟨u,hu,hpu⟩:=LW (kv hxs hvs) hs1 (show j<xs.length by omega) hcell;exact ⟨u,R.jY hx hy (hT _ _ hft).2 hd hag hes aK hu,kN hpu,hpu.oK⟩
    cases hl
   cases hl
  cases hl
 cases hl
theorem R.buildSlice {parts:List (Nat × Operand)} {pv:List (Nat × Value)} {vss:List (List Value)} {m s:Nat} {e:TypeId} {z:List Value} (ht:P.underlying t=some (.slice e)) (hs:(P.info? e).map (·.size)=some s)
  (hz:((P.info? e).bind (·.zero)).map Value.cells=some z.toArray) (hp:Ju F parts=some pv) (hv:pv.map (fun p=>(p.1,p.2.cells.toList))=(List.range' 0 vss.length).zip vss) (hl:∀ vs ∈ vss,vs.length=s) (hm:vss.length=m)
  (hsm:m*s<=16777216):aD P n F w (.buildSlice t m parts.toArray) ty (.slice (some ⟨w.heap.size,0,none⟩) m m) (w.alloc (.cells vss.flatten.toArray e)):=fun a _ _ _ _ ha=>by
 subst hm;cases hq:P.info? e with
 | none=>simp [hq] at hs
 | some i=>
  have hi:i.size=s:=by simpa [hq] using hs
  cases hz':i.zero with
  | none=>simp [hq,hz'] at hz
  | some zv=>
   have hparts:(parts.toArray.map fun p=>(p.1,a.eval p.2))=pv.toArray:=by simp [<- xd ha hp]
   have hf:∀ zc:List Value,zc.length=vss.length*s->Instr.fill (fun i=>some (i*s,s)) zc.toArray pv=some vss.flatten.toArray:=fun zc hzc=>by
    simpa using sH s vss 0 [] zc hl (by simp) hzc pv hv
   by_cases h0:vss.length*s=0
   ·have:=hf [] (by simp [h0]);simp [execOp,hparts,Instr.buildSlice,run_underlying ht,sizeOf,typeInfo,hq,hi,h0,Array.range_zero',this,newRow]
   have:=hf ((List.range (vss.length*s)).map fun j=>zv.cells[j % zv.cells.size]!) (by simp);have h2:(Array.range (vss.length*s)).map (fun j=>zv.cells[j % zv.cells.size]!)=((List.range (vss.length*s)).map fun j=>zv.cells[j % zv.cells.size]!).toArray:=by rw [<- List.toArray_range,List.map_toArray]
   simp only [execOp,Instr.buildSlice,Sem.run_bind,run_underlying ht,sizeOf,typeInfo,run_program,hq,hi,Result.andThen_ok,Sem.run_ite,if_neg (show ¬ vss.length*s > 2 ^ 24 by omega),Sem.run_pure,h0,if_false,zeroValue,hz',h2];rw [show (Array.map (fun x=>(x.1,a.eval x.2)) parts.toArray).toList=pv by rw [hparts]];simp [this,newRow]
theorem Aj (op:BinOp) (t:TypeId) (x:Operand):eqGuard op t x (.const .nilIface) .nilIface .nilIface=pure ():=by cases op <;> cases x <;> rfl
theorem xP (op:BinOp) (t:TypeId) (x y:Operand) (a:TypeId) (b:Value):eqGuard op t x y (.iface a b) .nilIface=pure ():=by cases op <;> rfl
theorem eval_nil (a:Act):a.eval (.const .nilIface) = .nilIface:=rfl
variable {X:Option TV}
theorem Xx (hT:aY P G.shp T) {c:Cx} {fr:AFr} (hf:FrR c ρ fr F) {op:BinOp} (hX:cP fr x=X) (h:erA T op t X y=some r) (hc:c=cx G ρ w):Yields P n F w (.binOp op t x y t') ty fun v w'=>Kp [] w w' /\ Rt (cx G ρ w') ρ r.v v/\∀ p ∈ r.fc,p:=by
 unfold erA at h;split at h
 ·split at h
  ·rename_i sz z b hft;obtain ⟨va,h1,us,h2,h3⟩:=aq hf hX;have hu:P.underlying t=some (.interface (P.methodsAt t)):=(hT _ _ hft).2;obtain ⟨_,h3⟩:=h3;split at h
   ·cases h;rcases h3 with ⟨rfl,rfl⟩ | ⟨rfl,t0,u0,rfl⟩
    ·exact y0 (v:=.bool true) (fun _ _ _ _ _ ha=>by simp [execOp,ha.ev h1,eval_nil,Aj,run_eql_nil_nil w t hu]) (Pd.bool (e:=.atom true)) (by simp)
    exact y0 (v:=.bool false) (fun _ _ _ _ _ ha=>by simp [execOp,ha.ev h1,eval_nil,xP,run_eql_held_nil w t t0 u0 hu]) (Pd.bool (e:=.atom false)) (by simp)
   ·cases h;rcases h3 with ⟨rfl,rfl⟩ | ⟨rfl,t0,u0,rfl⟩
    ·exact y0 (v:=.bool false) (fun _ _ _ _ _ ha=>by simp [execOp,ha.ev h1,eval_nil,Aj,run_neq_nil_nil w t hu]) (Pd.bool (e:=.not (.atom true))) (by simp)
    exact y0 (v:=.bool true) (fun _ _ _ _ _ ha=>by simp [execOp,ha.ev h1,eval_nil,xP,run_neq_held_nil w t t0 u0 hu]) (Pd.bool (e:=.not (.atom false))) (by simp)
   cases h
  cases h
 cases h
theorem Ls (n:Int):IntKind.u8.wrap n=((Zs n).toNat:Int):=by
 show n % 256=_;unfold Zs;rw [UInt8.toNat_ofNat'];omega
theorem Gx (hT:aY P G.shp T) (hR:Rep G ρ H w) {a:TI} (ht:aQ T t=some a) (ht':aQ T t' = some b) (h:KN O H a.k b.k u=some r) (hob:∀ p ∈ r.ob,p) (ha:Rd (cx G ρ w) ρ u va) (hx:ev F x=some va) :
  Yields P n F w (.convert t t' x) ty fun v w'=>Kp [] w w' /\ Rt (cx G ρ w') ρ r.v v/\∀ p ∈ r.fc,p:=by
 unfold KN at h;split at h
 ·rename_i k1 k2 m _ e1 e2;have hs:=(hT _ _ ht).2;have hd:=(hT _ _ ht').2;rw [e1] at hs; rw [e2] at hd;cases h;cases ha with | int hI=>
  have:=R.conv (P:=P) (n:=n) (w:=w) (ty:=ty) hx hs hd
  rw [Ls] at this;exact y0 this Pd.u8 (by simp)
 exact Jc hT hR ht ht' h hob ha hx
theorem Ej {k:Str}:∀ {l:List MapEntry} {i:Nat},(∀ e ∈ l,∃ s,e.key = .string s) ->
  (∃ j v,Instr.findNow .string k.val l i=some (some (j,v))/\wy k l=some v)\/(Instr.findNow .string k.val l i=some none/\wy k l=none)
 | [],i,_=>.inr ⟨rfl,rfl⟩
 | e :: l,i,h=>by
  obtain ⟨s,hk⟩:=h e (by simp);have hr:=fun x hx=>h x (acb _ hx);have hb:((⟨k.b.toArray⟩:ByteArray) == s)=decide ((⟨s.data.toList⟩:Str)=k):=by
   rw [ahi,MapKept.bytes_beq,decide_eq_true_eq];constructor
   ·rintro rfl; simp
   intro e; rw [<- e]
  by_cases hkk:(⟨s.data.toList⟩:Str)=k
  ·exact .inl ⟨i,e.val,by simp only [Instr.findNow,hk,Instr.sameNow,Str.val,hb,hkk,decide_true],by simp [wy,PF,hk,hkk]⟩
  rcases Ej (k:=k) (i:=i+1) hr with ⟨j,v,h1,h2⟩ | ⟨h1,h2⟩
  ·exact .inl ⟨j,v,by simp only [Instr.findNow,hk,Instr.sameNow,Str.val,hb,hkk]; exact h1,by simp [wy,PF,hk,hkk,h2]⟩
  exact .inr ⟨by simp only [Instr.findNow,hk,Instr.sameNow,Str.val,hb,hkk]; exact h1,by simp [wy,PF,hk,hkk,h2]⟩
theorem R.PM {g c:Nat} {k:Str} {a:Array MapEntry} {z:Value} {kt et:TypeId} (hx:ev F x=some (.map (some g))) (hy:ev F y=some k.val) (hm:P.underlying t=some (.map kt et)) (hk:P.underlying kt=some .string) (hz:(P.info? et).bind (·.zero)=some z) (hg:w.heap[g]? = some (.map a c)) (hl:∀ e ∈ a.toList,∃ s,e.key = .string s) :
  aD P n F w (.lookup t x y false) ty ((wy k a.toList).getD z) w:=fun a' _ _ _ _ ha=>by
 have hik:MapKept.IsKey .string k.val:=trivial;have e2:(zeroValue et).run P w = .ok z w:=by
  cases hq:P.info? et with
  | none=>simp [hq] at hz
  | some i=>simp [hq] at hz; simp [zeroValue,typeInfo,hq,hz]
 have e:(Instr.lookup t (.map (some g)) k.val false).run P w = .ok ((wy k a.toList).getD z) w:=by
  unfold Instr.lookup;simp only [Sem.run_bind,run_underlying hm];rcases Ej (k:=k) (i:=0) hl with ⟨j,e0,h1,h2⟩ | ⟨h1,h2⟩
  ·simp only [Sem.run_bind,MapKept.run_getObj_map hg,Result.andThen,Sem.run_pure,MapKept.run_checkKey hk hik,MapKept.run_findKey hk h1];simp [h2]
  simp only [Sem.run_bind,MapKept.run_getObj_map hg,Result.andThen,Sem.run_pure,MapKept.run_checkKey hk hik,MapKept.run_findKey hk h1];simp [h2,e2]
 simp [execOp,ha.ev hx,ha.ev hy,e]
theorem Ft (hT:aY P G.shp T) {c:Cx} {fr:AFr} (hf:FrR c ρ fr F) {ok:Bool} {Y:Option TV} (hX:cP fr x=X) (hY:cP fr y=Y) (h:Jj T t X Y ok=some r) (hc:c=cx G ρ w):Yields P n F w (.lookup t x y ok) ty fun v w'=>Kp [] w w' /\ Rt (cx G ρ w') ρ r.v v/\∀ p ∈ r.fc,p:=by
 subst hc;unfold Jj at h;split at h
 ·rename_i kt et sz z f s hft;split at h
  ·cases h;obtain ⟨va,h1,us,h2,h3⟩:=aq hf hX;obtain ⟨vb,h4,h5⟩:=aq hf hY;cases h5 with | str hl=>
   obtain ⟨_,g,a,n',rfl,_,hg,hk,hv⟩:=h3;obtain ⟨hu,hkt,hz⟩:=(hT _ _ hft).2;have hrun:=R.PM (P:=P) (n:=n) (F:=F) (ty:=ty) h1 h4 hu hkt hz hg hk;obtain ⟨hv1,hv2⟩:=hv s;rw [hv1] at hrun;cases hf':f s with
   | none=>rw [hf'] at hrun; exact y0 hrun (by rw [show ((none:Option Int).getD 0)=0 from rfl]; exact Pd.int ⟨by omega,by omega⟩) (by simp)
   | some m=>rw [hf'] at hrun; exact y0 hrun (Pd.int (hv2 m hf')) (by simp)
  cases h
 cases h
theorem yW {c:Cx}:∀ {l:List (Nat × TV1)} {k:Nat} {cs:List (Nat × Nat)} {pv:List (Nat × Value)},ri k l=some cs->All2 (fun p q=>p.1=q.1/\cO c ρ p.2 q.2) l pv ->
  ∃ us:List Value,All2 (dP ρ) cs us/\pv.map (fun p=>(p.1,p.2.cells.toList))=(List.range' k us.length).zip (us.map fun u=>[u])
 | [],k,cs,_,h,hp=>by cases h; cases hp; exact ⟨[],.nil,rfl⟩
 | (i,t) :: r,k,cs,_,h,hp=>by
  cases hp with
  | @cons _ q _ qs h1 h2=>
  obtain ⟨i',u⟩:=q;obtain ⟨e,hv⟩:=h1;simp only at e; subst e;cases t with
  | agg l=>simp [ri] at h
  | c a=>
  cases a;case ptr id o=>
   simp only [ri] at h;split at h
   ·rename_i l hik hl;cases h;obtain ⟨us,h3,h4⟩:=yW hl h2;have hik:=abk hik;subst hik;obtain ⟨g,h5,rfl⟩:=hv;refine ⟨_ :: us,.cons ⟨g,h5,rfl⟩ h3,?_⟩;simp only [ae9,h4];rfl
   cases h
  all_goals simp [ri] at h
theorem Vg:∀ us:List Value,(us.map fun u=>[u]).flatten=us
 | []=>rfl
 | a :: r=>by rw [ae9,List.flatten_cons,Vg r]; rfl
theorem Mf (hT:aY P G.shp T) (hR:Rep G ρ H w) {e:Nat} {cs:List (Nat × Nat)} {parts:Array (Nat × Operand)} {pv:List (Nat × Value)} (hft:aQ T t=some ⟨.sl e none,sz,z⟩) (hcs:ri 0 l=some cs) (h1:Ju F parts.toList=some pv) (h2:All2 (fun p q=>p.1=q.1/\cO (cx G ρ w) ρ p.2 q.2) l pv) (hm:cs.length=m) (hpt:Am T e=true) (hle:m<=16777216) :
  Yields P n F w (.buildSlice t m parts) ty fun v w'=>Kp [] w w' /\ Rt (cx G ρ w') ρ (one (.xx .pl cs)) v/\∀ p ∈ ([]:List Prop),p:=by
 obtain ⟨us,h3,h4⟩:=yW hcs h2;have hl:=h3.length;have hft:=(hT _ _ hft).2;have hz:=xX hT hpt;have hrun:=R.buildSlice (P:=P) (n:=n) (F:=F) (w:=w) (ty:=ty) (m:=m) (s:=1) (z:=[.pointer none]) (vss:=us.map fun u=>[u]) hft.1 hz.1 hz.2 h1 (by rw [List.length_map]; exact h4) (by simp) (by rw [List.length_map]; omega) (by omega);rw [show parts.toList.toArray=parts by simp,Vg us] at hrun;have hlen:us.length=m:=by omega
 subst hlen;refine .inl ⟨_,_,hrun,Kp.alloc w _,⟨us,h3,⟨w.heap.size,0,none⟩,rfl,hle,⟨by simp,fun ⟨i,r,e1,e2⟩=>by have:=(hR.bnd i r _ e1 e2).2.1; simp at this,fun hz=>by have:=hR.z _ hz; simp at this⟩,?_⟩,by simp⟩;exact cc (cells:=us) (sp:=[]) (t:=e) (f:=(0,0)) (by rw [ade]; exact agi w _)
theorem PB (hT:aY P G.shp T) (hO:ay P G.shp O) (hR:Rep G ρ H w) {fr:AFr} (hf:FrR (cx G ρ w) ρ fr F) (h:pvB T O H fr op=some r) (hob:∀ p ∈ r.ob,p) :
  Yields P n F w op ty fun v w'=>Kp [] w w' /\ Rt (cx G ρ w') ρ r.v v/\∀ p ∈ r.fc,p:=by
 cases op <;> simp only [pvB] at h;case move x=>
  split at h
  ·rename_i tv hx;cases h;obtain ⟨v,h1,h2⟩:=aq hf hx;exact y0 (R.move h1) h2 (by simp)
  cases h
 case assign x=>
  split at h
  ·rename_i tv hx;cases h;obtain ⟨v,h1,h2⟩:=aq hf hx;exact y0 (R.assign h1) h2 (by simp)
  cases h
 case unOp u t x=>
  cases u <;> simp only at h <;> try cases h
  split at h
  ·rename_i e hx;cases h;obtain ⟨v,h1,h2⟩:=aq hf hx;cases h2 with | bool=>
   have e1:(BE.neg e).val = !e.val:=by cases e <;> simp [BE.neg,BE.val]
   have h3:=Pd.bool (c:=cx G ρ w) (e:=e.neg);rw [e1] at h3;exact y0 (R.not h1) h3 (by simp)
  cases h
 case binOp op t x y t'=>
  split at h
  ·rename_i a b hx hy;split at h
   ·rename_i hb;obtain ⟨va,h1,h2⟩:=aq hf hx;obtain ⟨vb,h3,h4⟩:=aq hf hy;obtain ⟨v,h5,h6,h7⟩:=KE (P:=P) (n:=n) (w:=w) (ty:=ty) (t':=t') hT hb h hob h2 h4 h1 h3;exact y0 h5 h6 (r_ h7)
   exact Xx (P:=P) (n:=n) (w:=w) (ty:=ty) hT hf hx h rfl
  ·rename_i a b hx hy;obtain ⟨va,h1,vs,rfl,h2⟩:=aq hf hx;obtain ⟨vb,h3,us,rfl,h4⟩:=aq hf hy;obtain ⟨v,h5,h6,h7⟩:=PK (P:=P) (n:=n) (w:=w) (ty:=ty) (t':=t') hT h h2 h4 h1 h3;exact y0 h5 h6 (r_ h7)
  cases h
 case extract x i=>
  split at h
  ·rename_i l hx;split at h
   ·rename_i a hi;cases h;obtain ⟨v,h1,vs,rfl,h2⟩:=aq hf hx;obtain ⟨u,h3,h4⟩:=dC h2 i a hi;exact y0 (R.extract h1 (by simpa using h3)) h4 (by simp)
   cases h
  cases h
 case nilCheck x=>
  split at h
  ·rename_i a hx;obtain ⟨v,h1,h2⟩:=aq hf hx;cases a <;> simp only [pr] at h <;> cases h
   ·obtain ⟨g,h3,rfl⟩:=h2;exact y0 (R.oM h1) ⟨g,h3,rfl⟩ (by simp)
   ·obtain ⟨g,cap,len,z,h3,h4,rfl⟩:=h2;exact y0 (R.oM h1) ⟨g,cap,len,z,h3,h4,rfl⟩ (by simp)
   ·obtain ⟨A,cells,h3,h4,h5,rfl⟩:=h2;exact y0 (R.oM h1) ⟨A,cells,h3,h4,h5,rfl⟩ (by simp)
   obtain ⟨bs,us,h3,h4,rfl⟩:=h2;exact y0 (R.FY h1) ⟨bs,us,h3,h4,rfl⟩ (by simp)
  cases h
 case convert s t x=>
  split at h
  ·rename_i a b u h1 h2 hx;obtain ⟨v,h3,h4⟩:=aq hf hx;exact Gx hT hR h1 h2 h hob h4 h3
  cases h
 case makeFunc g b c=>
  cases g <;> simp only at h <;> try cases h
  rename_i f;split at h
  ·rename_i cs hb hc;split at h
   ·rename_i cp hcp;cases h;obtain ⟨vs,h1,h2⟩:=kW hf hc;have h3:=ni hcp h2;obtain rfl:b = #[]:=by
     apply agt;simpa using hb
    refine y0 (R.makeFunc (cv:=vs.toArray) fun a ha=>?_) ⟨[],vs,.nil,h3,rfl⟩ (by simp);apply agt;rw [Array.toList_map,mS ha h1]
   cases h
  cases h
 case fieldAddr t x i=>
  split at h
  ·rename_i fs sz z a h1 hx;split at h
   ·rename_i o k hi;obtain ⟨v,h2,h3⟩:=aq hf hx;obtain ⟨u,h4,h5,_,h7⟩:=Hp (P:=P) (n:=n) (w:=w) (ty:=ty) hT h1 hi h3 h2 h;exact y0 h4 h5 (r_ h7)
   cases h
  cases h
 case load t x=>
  split at h
  ·rename_i a hx;obtain ⟨v,h2,h3⟩:=aq hf hx;split at h
   ·rename_i r' hla;cases h;obtain ⟨u,h4,h5,h6⟩:=pn (P:=P) (n:=n) (ty:=ty) hT hR h3 h2 hla hob;exact y0 h4 h5 h6
   obtain ⟨u,h4,h5,_,h7⟩:=xC (P:=P) (n:=n) (ty:=ty) hT hR h3 h2 h;exact y0 h4 h5 (r_ h7)
  cases h
 case indexAddr t x y=>
  split at h
  ·rename_i a b s hx hy hs;split at h
   ·rename_i i hi;obtain ⟨va,h1,h2⟩:=aq hf hx;obtain ⟨vb,h3,h4⟩:=aq hf hy;obtain ⟨k,rfl⟩:=oN hi h4;obtain ⟨v,h5,h6,h7⟩:=Hi (P:=P) (n:=n) (ty:=ty) hT hR hs h hob h2 h1 h3;exact y0 h5 h6 h7
   cases h
  ·rename_i a b hx hy hs;split at h
   ·rename_i i hi;obtain ⟨va,h1,h2⟩:=aq hf hx;obtain ⟨vb,h3,h4⟩:=aq hf hy;obtain ⟨k,rfl⟩:=oN hi h4;obtain ⟨v,h5,h6,h7⟩:=wK (P:=P) (n:=n) (ty:=ty) hT h2 h1 h3 h hob;exact y0 h5 h6 h7
   cases h
  ·rename_i b hx hy hs;split at h
   ·rename_i i hi;obtain ⟨vb,h3,h4⟩:=aq hf hy;obtain ⟨k,rfl⟩:=oN hi h4;obtain ⟨v,h5,h6,h7⟩:=xp (P:=P) (n:=n) (ty:=ty) hT hR h3 h hob;exact y0 h5 h6 h7
   cases h
  cases h
 case index t x y=>
  split at h
  ·rename_i s b hx hy;split at h
   ·rename_i i hi;split at h
    ·rename_i sz z ht;cases h;obtain ⟨va,h1,h2⟩:=aq hf hx;obtain ⟨vb,h3,h4⟩:=aq hf hy;obtain ⟨k,rfl⟩:=oN hi h4;cases h2 with | str hl=>
     have g0:=hob _ (ac7); have g1:=hob _ (acb _ (ab3 _));obtain ⟨j,rfl⟩:=ab9 g0;exact y0 (R.ZN h1 h3 (hT _ _ ht).2 aK) Pd.u8 (by simp)
    cases h
   cases h
  ·rename_i cs b hx hy;split at h
   ·rename_i i hi;obtain ⟨va,h1,h2⟩:=aq hf hx;obtain ⟨vb,h3,h4⟩:=aq hf hy;obtain ⟨k,rfl⟩:=oN hi h4;obtain ⟨v,h5,h6,h7⟩:=vI (P:=P) (n:=n) (w:=w) (ty:=ty) hT h2 h1 h3 h hob;exact y0 h5 h6 h7
   cases h
  cases h
 case build t parts=>
  split at h
  ·rename_i fs sz z l ht hl;split at h
   ·rename_i cs hb;cases h;obtain ⟨pv,h1,h2⟩:=jB hf hl;obtain ⟨us,h3,h4⟩:=FF (P:=P) (n:=n) (w:=w) (ty:=ty) hT ht h1 h2 hb;have e:parts.toList.toArray=parts:=by simp
    rw [e] at h3;exact y0 h3 ⟨us,rfl,h4⟩ (by simp)
   cases h
  ·rename_i m e sz z l ht hl;split at h
   ·rename_i s cs hs hb;cases h;obtain ⟨pv,h1,h2⟩:=jB hf hl;obtain ⟨us,h3,h4⟩:=rK (P:=P) (n:=n) (w:=w) (ty:=ty) hT ht (wj hT hs).2.1 h1 h2 hb;have e:parts.toList.toArray=parts:=by simp
    rw [e] at h3;exact y0 h3 ⟨us,rfl,h4⟩ (by simp)
   cases h
  cases h
 case slice t x lo hi mx=>
  cases mx with
  | some m=>cases h
  | none=>
  simp only at h;split at h
  ·rename_i a hx;obtain ⟨va,h1,h2⟩:=aq hf hx;have fin:∀ (l' h':Option Int),ki T t a l' h' = some r->(∀ i,l' = some i->∃ z,lo=some z/\ev F z=some (.int .i64 i))->(l' = none->lo=none)->(∀ i,h' = some i->∃ z,hi=some z/\ev F z=some (.int .i64 i))->(h' = none->hi=none)->Yields P n F w (.slice t x lo hi none) ty fun v w'=>Kp [] w w' /\ Rt (cx G ρ w') ρ r.v v/\∀ p ∈ r.fc,p:=fun l' h' hs k1 k2 k3 k4=>by
    obtain ⟨v,h5,h6,h7⟩:=Gp (P:=P) (n:=n) (w:=w) (ty:=ty) hT hs hob h2 h1 k1 k2 k3 k4;exact y0 h5 h6 (r_ h7)
   split at h
   ·cases h
   ·split at h
    ·rename_i z i hz;obtain ⟨vz,h3,h4⟩:=aq hf hz;cases h4 with | int=>
     exact fin _ _ h (fun j hj=>by cases hj; exact ⟨_,rfl,h3⟩) (by simp) (by simp) (fun _=>rfl)
    cases h
   ·split at h
    ·rename_i z i hz;obtain ⟨vz,h3,h4⟩:=aq hf hz;cases h4 with | int=>
     exact fin _ _ h (by simp) (fun _=>rfl) (fun j hj=>by cases hj; exact ⟨_,rfl,h3⟩) (by simp)
    cases h
   split at h
   ·rename_i z z' i j hz hz';obtain ⟨vz,h3,h4⟩:=aq hf hz;obtain ⟨vz',h5,h6⟩:=aq hf hz';cases h4 with | int=>
    cases h6 with | int=>
    exact fin _ _ h (fun j hj=>by cases hj; exact ⟨_,rfl,h3⟩) (by simp) (fun j hj=>by cases hj; exact ⟨_,rfl,h5⟩) (by simp)
   cases h
  cases h
 case call cl=>
  split at h
  ·rename_i hcal;split at h
   ·rename_i x t hargs htys;split at h
    ·rename_i a hx;split at h
     ·rename_i m hm;cases h;obtain ⟨va,h1,h2⟩:=aq hf hx;obtain ⟨h3,h4⟩:=Rk (P:=P) (n:=n) (ty:=ty) hT hR hm h2 h1;have e:cl={ callee:=.builtin .len,args:=#[x],argTypes:=#[t] }:=by
       cases cl; simp at hcal hargs htys; subst hcal;simp only [ahq,true_and];exact ⟨agt (by simpa using hargs),agt (by simpa using htys)⟩
      rw [e];exact y0 h3 (Pd.int h4) (by simp)
     cases h
    cases h
   cases h
  ·rename_i hcal;split at h
   ·rename_i x y hargs;split at h
    ·rename_i a b hx hy;cases h;obtain ⟨va,h1,h2⟩:=aq hf hx;obtain ⟨vb,h3,h4⟩:=aq hf hy;cases h2 with | int ia=>
     cases h4 with | int ib=>
     have e:cl={ callee:=.builtin .min,args:=#[x,y],argTypes:=cl.argTypes }:=by
      cases cl; simp at hcal hargs; subst hcal;simp only [ahq,true_and,and_true];exact agt (by simpa using hargs)
     rw [e];exact y0 (R.min2 h1 h3) (Pd.int (by unfold I64 at *; omega)) (by simp)
    ·rename_i a b hx hy;cases h;obtain ⟨va,h1,h2⟩:=aq hf hx;obtain ⟨vb,h3,h4⟩:=aq hf hy;cases h2 with | u64 ia=>
     cases h4 with | u64 ib=>
     have e:cl={ callee:=.builtin .min,args:=#[x,y],argTypes:=cl.argTypes }:=by
      cases cl; simp at hcal hargs; subst hcal;simp only [ahq,true_and,and_true];exact agt (by simpa using hargs)
     have e2:min (a:Int) (b:Int)=((min a b:Nat):Int):=by omega
     have e3:=R.min2 (P:=P) (n:=n) (w:=w) (ty:=ty) (asx:=cl.argTypes) h1 h3;rw [e2] at e3;rw [e];exact y0 e3 (Pd.u64 aK) (by simp)
    cases h
   cases h
  ·rename_i hcal;split at h
   ·rename_i x y hargs;split at h
    ·rename_i a b hx hy;cases h;obtain ⟨va,h1,h2⟩:=aq hf hx;obtain ⟨vb,h3,h4⟩:=aq hf hy;cases h2 with | int ia=>
     cases h4 with | int ib=>
     have e:cl={ callee:=.builtin .max,args:=#[x,y],argTypes:=cl.argTypes }:=by
      cases cl; simp at hcal hargs; subst hcal;simp only [ahq,true_and,and_true];exact agt (by simpa using hargs)
     rw [e];exact y0 (R.max2 h1 h3) (Pd.int (by unfold I64 at *; omega)) (by simp)
    cases h
   cases h
  ·rename_i x hcal;split at h
   ·rename_i f l hl;obtain ⟨x',xs,vs,bs,cap,h1,h2,h3,h4,h5⟩:=kJ hf hl;obtain ⟨⟨fn,h6,h7,h8⟩,hrun⟩:=uh hO hR h5 h hob;have e:cl={ callee:=.value x',args:=xs.toArray,argTypes:=cl.argTypes }:=by
     cases cl; simp at h1 h2; subst h1; subst h2; rfl
    rw [e];exact .inr ⟨_,_,E.HX h3 h4 h6 h7 h8,hrun⟩
   cases h
  cases h
 case lookup t x y ok=>
  split at h
  ·rename_i s id k hft hx hy;split at h
   ·rename_i s' f hO2;split at h
    ·rename_i hss;subst hss;obtain ⟨hm,hk,hz,_⟩:=(hT _ _ hft).2;obtain ⟨z,zs,hz1,hz2,hz3⟩:=hz _ rfl;obtain ⟨va,h1,h2⟩:=aq hf hx;obtain ⟨vb,h3,h4⟩:=aq hf hy;cases h4 with | int=>
     obtain ⟨g,hg,rfl⟩:=h2;obtain ⟨r',hr',hor⟩:=hR.at_ (bB hO2 (by simp));rw [hg] at hr'; cases hr';obtain ⟨g',e,a,c,k1,k2,k3⟩:=hor;cases e;have hrun:=R.qe (P:=P) (n:=n) (ty:=ty) ok h1 h3 hm hk hz1 k1 k2;have hv:V1 (cx G ρ w) s' ((f k).getD (ao s')) ((getM k a.toList).getD z):=by
      have k4:=k3 k;cases hgm:getM k a.toList <;> cases hfk:f k <;> rw [hgm,hfk] at k4
      ·exact V1.zero hz2 hz3
      ·exact k4.elim
      ·exact k4.elim
      exact k4
     have hs:(getM k a.toList).isSome=(f k).isSome:=by
      have k4:=k3 k;cases hgm:getM k a.toList <;> cases hfk:f k <;> rw [hgm,hfk] at k4
      ·rfl
      ·exact k4.elim
      ·exact k4.elim
      rfl
     cases ok with
     | false=>cases h; exact y0 hrun hv.rt (by simp)
     | true=>
      cases h;refine y0 hrun ⟨_,rfl,.cons hv.rt (.cons ?_ .nil)⟩ (by simp);rw [hs];exact Pd.bool (e:=.atom (f k).isSome)
    cases h
   cases h
  exact Ft (P:=P) (n:=n) (w:=w) (ty:=ty) hT hf rfl rfl h rfl
 case buildSlice t m parts=>
  split at h
  ·rename_i e sz z l hft hl;split at h
   ·rename_i cs hcs;split at h
    ·rename_i hck;simp only [pr,Option.some.injEq] at h;subst h;simp only [Bool.and_eq_true] at hck;obtain ⟨pv,h1,h2⟩:=jB hf hl;exact Mf hT hR hft hcs h1 h2 (abk hck.1.1) hck.1.2 (adl hck.2)
    cases h
   cases h
  cases h
 all_goals cases h
end
section
variable {P:Program} {n:Nat} {fr:Fr} {w:World} {x y:Operand} {t t' ty e:TypeId}
variable {cs:List Value}
theorem R.mz {g o dl dc sl sc z:Nat} {a:Addr} {cur:List Value} {tt:TypeId} (hx:ev fr x=some (.slice (some ⟨g,o,none⟩) dl dc)) (hy:ev fr y=some (.slice (some a) sl sc)) (hu:P.underlying t=some (.slice e)) (hs:(P.info? e).map (·.size)=some z)
  (hg:w.heap[g]? = some (.cells cur.toArray tt (0,0))) (hn:cs.length=Nat.min sl dl*z) (hsrc:CellsAt w a cs) (hfit:o+cs.length<=cur.length) (h1:∀ v ∈ cs,v.oneCell' = true) :
  aD P n fr w (.call { callee:=.builtin .copy,args:=#[x,y],argTypes:=#[t,t'] }) ty (goInt (Nat.min sl dl)) (w.setRow g (cur.take o++cs++cur.drop (o+cs.length)).toArray):=fun _ _ _ _ _ ha=>by
 have hl:=ahn (P:=P) w a cs hsrc;have hst:=run_storeCells_at (P:=P) g o tt cs 0 cur.toArray w hg (by simpa using hfit) h1;cases hq:P.info? e with
 | none=>simp [hq] at hs
 | some i=>
  have hi:i.size=z:=by simpa [hq] using hs
  have hc:(Builtin.copy_ #[t,t'] ty #[.slice (some ⟨g,o,none⟩) dl dc,.slice (some a) sl sc]).run P w = .ok (goInt (Nat.min sl dl)) (w.setRow g (cur.take o++cs++cur.drop (o+cs.length)).toArray):=by
   simp [Builtin.copy_,run_underlying hu,Builtin.lenOf,Builtin.firstCells,sizeOf,typeInfo,hq,hi,<- hn,hl,hst]
  simp [execOp,resolve,invoke,builtin,ha.ev hx,ha.ev hy,hc]
variable {z'' z':Operand} {m i k j:Nat} {kh km:IntKind} {a:Option Addr}
theorem R.slice3 {c s:Nat} {kl:IntKind} {z:Operand} (hx:ev fr x=some (.slice a m c)) (hz:ev fr z=some (.int kl (i:Int))) (hz':ev fr z' = some (.int kh (j:Int))) (hz'':ev fr z'' = some (.int km (k:Int))) (ht:P.underlying t=some (.slice e)) (hs:(P.info? e).map (·.size)=some s)
  (hij:i<=j) (hjk:j<=k) (hk:k<=c):aD P n fr w (.slice t x (some z) (some z') (some z'')) ty (.slice (if k=i then a else a.map (·.add (i*s))) (j - i) (k - i)) w:=fun _ _ _ _ _ hfr=>by
 cases hq:P.info? e with
 | none=>simp [hq] at hs
 | some q=>
  have hs':q.size=s:=by simpa [hq] using hs
  have he:P.elem t=e:=by simp [Program.elem,ht]
  have e0:=ahs (P:=P) w t (.slice a m c) (some (.int kl (i:Int))) (some (.int kh (j:Int))) (some (.int km (k:Int))) (by rw [he]; exact ht);have:=run_slice_lhm (P:=P) w t a m c (by rw [he]; exact ht) kl kh km (i:Int) (j:Int) (k:Int) (by omega) (by omega) (by omega) (by omega);simp [execOp,hfr.ev hx,hfr.ev hz,hfr.ev hz',hfr.ev hz'',e0,this,he,sizeOf,typeInfo,hq,hs',sliced]
theorem R.SX {c s:Nat} (hx:ev fr x=some (.slice a m c)) (hz':ev fr z' = some (.int kh (j:Int))) (hz'':ev fr z'' = some (.int km (k:Int))) (ht:P.underlying t=some (.slice e)) (hs:(P.info? e).map (·.size)=some s)
  (hjk:j<=k) (hk:k<=c):aD P n fr w (.slice t x none (some z') (some z'')) ty (.slice (if k=0 then a else a.map (·.add (0*s))) (j - 0) (k - 0)) w:=fun _ _ _ _ _ hfr=>by
 cases hq:P.info? e with
 | none=>simp [hq] at hs
 | some q=>
  have he:P.elem t=e:=by simp [Program.elem,ht]
  have e0:=ahs (P:=P) w t (.slice a m c) none (some (.int kh (j:Int))) (some (.int km (k:Int))) (by rw [he]; exact ht);have:=run_slice_hm (P:=P) w t a m c (by rw [he]; exact ht) kh km (j:Int) (k:Int) (by omega) (by omega) (by omega);simp [execOp,hfr.ev hx,hfr.ev hz',hfr.ev hz'',e0,this,he,sizeOf,typeInfo,hq,sliced]
theorem vy (z:Int) (h:0<=z):IntKind.u32.wrap z=((z.toNat % 4294967296:Nat):Int):=by
 simp only [IntKind.wrap,IntKind.bits,IntKind.signed];simp;omega
theorem wrap_u32 (h:m<4294967296):IntKind.u32.wrap (m:Int)=(m:Int):=by
 rw [vy _ (by omega),adm,Nat.mod_eq_of_lt h]
variable {b a:Nat}
theorem R.aeC {kc:IntKind} (hx:ev fr x=some (.int .u32 (a:Int))) (hy:ev fr y=some (.int kc (b:Int))) (hb:b<=32):aD P n fr w (.binOp .shl t x y t') ty (.int .u32 (((a*2 ^ b) % 4294967296:Nat):Int)) w:=fun _ _ _ _ _ ha=>by
 have e:IntKind.u32.wrap ((a:Int)*2 ^ b)=(((a*2 ^ b) % 4294967296:Nat):Int):=by
  rw [show (a:Int)*2 ^ b=((a*2 ^ b:Nat):Int) by simp,vy _ (Int.natCast_nonneg _),adm]
 have e2:Op.shift .shl .u32 (a:Int) kc (b:Int)=pure (.int .u32 (((a*2 ^ b) % 4294967296:Nat):Int)):=by
  simp_all
 simp only [execOp,ha.ev hx,ha.ev hy,binOp_shl,e2];rfl
theorem R.orW (hx:ev fr x=some (.int .u32 (a:Int))) (hy:ev fr y=some (.int .u32 (b:Int))) (h1:a<4294967296) (h2:b<4294967296):aD P n fr w (.binOp .or t x y t') ty (.int .u32 ((a ||| b:Nat):Int)) w:=fun _ _ _ _ _ ha=>by
 have h3:∀ c:Nat,(BitVec.ofInt 32 (c:Int))=BitVec.ofNat 32 c:=fun c=>by rw [BitVec.ofInt_natCast]
 have e:bits .or .u32 (a:Int) (b:Int)=((a ||| b:Nat):Int):=by
  show IntKind.u32.wrap ((BitVec.ofInt 32 (a:Int) ||| BitVec.ofInt 32 (b:Int)).toNat:Int)=_;rw [h3,h3,BitVec.toNat_or,BitVec.toNat_ofNat,BitVec.toNat_ofNat,Nat.mod_eq_of_lt (by simpa using h1),Nat.mod_eq_of_lt (by simpa using h2)];exact wrap_u32 (ahj (n:=32) h1 h2)
 simp [execOp,ha.ev hx,ha.ev hy,eqGuard_or,binOp_or,intBits_or,e]
theorem R.XO {v:Value} {F:Array Go.Field} {f:Go.Field} {d:TypeDesc} (hx:ev fr x=some (.agg cs.toArray)) (ht:P.underlying t=some (.struct F)) (hf:F[i]? = some f) (hu:P.underlying f.type=some d) (hd:jO d=false) (hv:cs[f.offset]? = some v):aD P n fr w (.field t x i) ty v w:=fun _ _ _ _ _ ha=>by
 have e1:(Instr.field t (.agg cs.toArray) i).run P w = .ok v w:=by
  unfold Instr.field;simp [run_underlying ht,hf,part,lq hu,hd,hv,asAgg]
 simp [execOp,ha.ev hx,e1]
theorem R.FZ {f:FuncId} {bs cs:List Operand} {bv cv:List Value} (hb:OB fr bs=some bv) (hc:OB fr cs=some cv):aD P n fr w (.makeFunc (.func f) bs.toArray cs.toArray) ty (.func (.func f) bv.toArray cv.toArray) w:=fun _ _ _ _ _ ha=>by
 simp [execOp,mS ha hb,mS ha hc,Instr.makeFunc]
end
section
variable {P:Program} {T:List (Nat × TI)} {G:Gl} {O:bD} {n:Nat} {F:Fr} {w:World} {x y:Operand} {ty t t':TypeId} {ρ:List RE} {H:AH}
variable {m:Nat}
theorem zq {c:Cx} (h:m<4294967296):Rt c ρ (one (.xx (.w m) [])) (.int .u32 (m:Int)):=⟨[],.nil,rfl,h,rfl⟩
theorem Rz {c:Cx} {v:Value} (h:Rt c ρ (one (.xx (.w m) [])) v):m<4294967296/\v = .int .u32 (m:Int):=by
 obtain ⟨us,_,h⟩:=h;exact h.2
variable {r:PR} {b a:Nat} {op:BinOp}
theorem Sv (h:wOp op a b=some r) (hob:∀ p ∈ r.ob,p) (ha:a<4294967296) (hb:b<4294967296) (hx:ev F x=some (.int .u32 (a:Int))) (hy:ev F y=some (.int .u32 (b:Int))) {c:Cx}:∃ v,aD P n F w (.binOp op t x y t') ty v w/\Rt c ρ r.v v/\r.fc=[]:=by
 unfold wOp at h;split at h <;> cases h
 ·exact ⟨_,R.eql hx hy,Pd.bool (e:=.eq _ _),rfl⟩
 ·exact ⟨_,R.neq hx hy,Pd.bool (e:=.not (.eq _ _)),rfl⟩
 ·have:=R.Qx (P:=P) (n:=n) (w:=w) (ty:=ty) (t:=t) (t':=t') hx hy;exact ⟨_,this,zq (agh _ aK),rfl⟩
 ·have:=R.acM (P:=P) (n:=n) (w:=w) (ty:=ty) (t:=t) (t':=t') hx hy;exact ⟨_,this,zq (agh _ aK),rfl⟩
 ·have h1:=hob _ (ab3 _);exact ⟨_,R.QJ hx hy h1,zq (ad5 (Nat.mod_le _ _) ha),rfl⟩
 ·have h1:=hob _ (ab3 _);have h2:=ad5 (agY a b) ha;exact ⟨_,R.Sm hx hy h1 (wrap_u32 h2),zq h2,rfl⟩
 exact ⟨_,R.orW hx hy ha hb,zq (ahj (n:=32) ha hb),rfl⟩
theorem Rc (h:wSh op a b=some r) (hob:∀ p ∈ r.ob,p) (ha:a<4294967296) (hx:ev F x=some (.int .u32 (a:Int))) (hy:ev F y=some (.int .u64 (b:Int))) {c:Cx}:∃ v,aD P n F w (.binOp op t x y t') ty v w/\Rt c ρ r.v v/\r.fc=[]:=by
 unfold wSh at h;split at h <;> cases h
 ·have h1:=hob _ (ab3 _);exact ⟨_,R.aeC hx hy (ahE h1),zq (agh _ aK),rfl⟩
 have h1:=hob _ (ab3 _);exact ⟨_,R.Mi hx hy (ahE h1),zq (ad5 (agY _ _) ha),rfl⟩
theorem pZ {c:Cx} {full:List KC}:∀ {z cs:List KC} {i:Nat},HN z cs=true->(∀ j,cs.getD j .nf=full.getD (i+j) .nf)->All2 (Rd c ρ) (Cp full i z) (cs.map KC.val)
 | [],[],_,_,_=>.nil
 | a :: _,[],_,h,_=>by cases a <;> simp [HN] at h
 | a :: z,b :: cs,i,h,he=>by
  have e0:full.getD i .nf=b:=(he 0).symm;have he':∀ j,cs.getD j .nf=full.getD (i+1+j) .nf:=fun j=>by
   have:=he (j+1);grind
  cases a <;> cases b <;> simp only [HN,Bool.and_eq_true,decide_eq_true_eq] at h <;> try cases h
  ·refine .cons ?_ (pZ (by assumption) he');rw [e0];rename_i h1 _;exact (Pd.int h1:Pd c _ _)
  ·refine .cons ?_ (pZ h he');rw [e0];exact Pd.bool (e:=.atom _)
  all_goals
   refine .cons ?_ (pZ h he');rw [e0];exact ⟨[],.nil,rfl,rfl⟩
theorem CD {z:List KC}:∀ {l:List (Int × List KC)} {k:Int},Zy z l=true->HN z ((dA l k).getD z)=true
 | [],_,h=>h
 | (j,cs) :: r,k,h=>by
  simp only [Zy,Bool.and_eq_true] at h;unfold dA;split
  ·exact h.1
  exact CD h.2
theorem qD (hT:aY P G.shp T) {c:Cx} {a:AV} {l h m:Int} {va:Value} (hr:w_ T t a l h m=some r) (hob:∀ p ∈ r.ob,p) (ha:Rd c ρ a va) :
  ∃ (e:TypeId) (s:Nat) (A:Option Addr) (len cap i j k:Nat),P.underlying t=some (.slice e)/\(P.info? e).map (·.size)=some s/\va = .slice A len cap/\l=i/\h=j/\m=k/\i<=j/\j<=k/\k<=cap/\Rt c ρ r.v (.slice (if k=i then A else A.map (·.add (i*s))) (j - i) (k - i))/\r.fc=[]:=by
 unfold w_ at hr;split at hr
 ·rename_i s xs;split at hr
  ·rename_i s' hs';split at hr
   ·rename_i hck;have hss:=ac6 hck;subst hss;cases hr;have o1:=hob _ (.head _);have o2:=hob _ (.tail _ (.head _));have o3:=hob _ (.tail _ (.tail _ (.head _)));have o4:=hob _ (.tail _ (.tail _ (.tail _ (.head _))));have hm0:0<=m:=by omega
    obtain ⟨i,rfl⟩:=ab9 o1;obtain ⟨j,rfl⟩:=ab9 (show 0<=h by omega);obtain ⟨k,rfl⟩:=ab9 hm0;have ha:Pd c _ _:=ha;cases ha with
    | @fz _ _ A cap cells h1 h2 h3 h4 h5=>
    unfold TZ at hs';split at hs'
    ·rename_i e so sz z hft;subst hs';obtain ⟨hu,hs⟩:=(hT _ _ hft).2;obtain ⟨_,⟨zz,hz,_⟩,_⟩:=hs _ rfl;have hinfo:(P.info? e).map (·.size)=some s'.size:=by
      cases hq:P.info? e with
      | none=>simp [hq] at hz
      | some q=>simp [hq] at hz; simp [hz.2.1]
     refine ⟨e,s'.size,A,xs.length,cap,i,j,k,hu,hinfo,rfl,rfl,rfl,rfl,by omega,by omega,by omega,?_,rfl⟩;have hlen:((xs.drop i).take (j - i)).length=j - i:=by rw [List.length_take,List.length_drop]; omega
     have hb:((xs.drop i).take (j - i)).length*s'.bytes<=140737488355328:=by
      refine Nat.le_trans (adk _ ?_) h3;rw [hlen]; omega
     show Pd c (.fz s' ((xs.drop (i:Int).toNat).take ((j:Int).toNat - (i:Int).toNat))) _;simp only [adm];have:=Pd.fz (c:=c) (s:=s') (xs:=(xs.drop i).take (j - i)) (a:=if k=i then A else A.map (·.add (i*s'.size))) (k:=k - i) (cells:=(cells.drop (i*s'.size)).take ((j - i)*s'.size)) (by rw [hlen]; omega) (by omega) hb (bk (bL h4 i) (j - i)) ?_
     ·rw [hlen] at this; exact this
     by_cases hk:k=i
     ·left;have:j - i=0:=by omega
      rw [this]; rfl
     rw [if_neg hk];rcases h5 with h5 | ⟨A',hA,hat,hc⟩
     ·left; subst h5; simp
     right;subst hA;exact ⟨A'.add (i*s'.size),rfl,by rw [fN]; exact hat,(hc.drop _).take _⟩
    cases hs'
   cases hr
  cases hr
 cases hr
variable {te tp:TypeId}
theorem Ce (a:Option Addr) (hp:P.underlying tp=some (.pointer te)):(binOp .eql tp (.pointer a) (.pointer none)).run P w = .ok (.bool a.isNone) w:=by
 have h:∀ d:Nat,(Op.equalIn (d+1) tp (.pointer a) (.pointer none)).run P w = .ok a.isNone w:=fun d=>by
  cases a <;> simp [Op.equalIn,run_underlying hp]
 simp only [binOp];simp [Op.equal,Op.maxDepth,h 9999]
theorem Cn (a:Option Addr) (hp:P.underlying tp=some (.pointer te)):(binOp .neq tp (.pointer a) (.pointer none)).run P w = .ok (.bool !a.isNone) w:=by
 have h:∀ d:Nat,(Op.equalIn (d+1) tp (.pointer a) (.pointer none)).run P w = .ok a.isNone w:=fun d=>by
  cases a <;> simp [Op.equalIn,run_underlying hp]
 simp only [binOp];simp [Op.equal,Op.maxDepth,h 9999]
theorem AU (op:BinOp) (t:TypeId) (x y:Operand) (a b:Option Addr):eqGuard op t x y (.pointer a) (.pointer b)=pure ():=by cases op <;> rfl
theorem DU (hT:aY P G.shp T) {a:Option Addr} (h:npE T t op a.isNone=some r) (hx:ev F x=some (.pointer a)) (hy:ev F y=some (.pointer none)) {c:Cx}:∃ v,aD P n F w (.binOp op t x y t') ty v w/\Rt c ρ r.v v/\r.fc=[]:=by
 unfold npE at h;split at h
 ·rename_i sz z hft;obtain ⟨e,hu⟩:=(hT _ _ hft).2;cases h;exact ⟨.bool a.isNone,fun _ _ _ _ _ ha=>by simp [execOp,ha.ev hx,ha.ev hy,AU,Ce a hu],Pd.bool (e:=.lit a.isNone),rfl⟩
 ·rename_i sz z hft;obtain ⟨e,hu⟩:=(hT _ _ hft).2;cases h;exact ⟨.bool !a.isNone,fun _ _ _ _ _ ha=>by simp [execOp,ha.ev hx,ha.ev hy,AU,Cn a hu],Pd.bool (e:=.lit !a.isNone),rfl⟩
 cases h
variable {op:Op}
theorem RZ (hT:aY P G.shp T) (_:Rep G ρ H w) {fr:AFr} (hf:FrR (cx G ρ w) ρ fr F) (h:pvX T H fr op=some r) (hob:∀ p ∈ r.ob,p) :
  Yields P n F w op ty fun v w'=>Kp [] w w' /\ Rt (cx G ρ w') ρ r.v v/\∀ p ∈ r.fc,p:=by
 unfold pvX at h;split at h
 ·-- binOp
  split at h
  ·rename_i i o hx hy;obtain ⟨va,h1,g,_,rfl⟩:=aq hf hx;obtain ⟨vb,h3,h4⟩:=aq hf hy;replace h4:vb = .pointer none:=h4;subst h4;obtain ⟨v,h5,h6,h7⟩:=DU (P:=P) (n:=n) (w:=w) (ty:=ty) (ρ:=ρ) (c:=cx G ρ w) hT (a:=some ⟨g,o,none⟩) h h1 h3;exact y0 h5 h6 (r_ h7)
  ·rename_i hx hy;obtain ⟨va,h1,h2⟩:=aq hf hx;replace h2:va = .pointer none:=h2;subst h2;obtain ⟨vb,h3,h4⟩:=aq hf hy;replace h4:vb = .pointer none:=h4;subst h4;obtain ⟨v,h5,h6,h7⟩:=DU (P:=P) (n:=n) (w:=w) (ty:=ty) (ρ:=ρ) (c:=cx G ρ w) hT (a:=none) h h1 h3;exact y0 h5 h6 (r_ h7)
  ·rename_i a b hx hy;obtain ⟨va,h1,h2⟩:=aq hf hx;obtain ⟨vb,h3,h4⟩:=aq hf hy;obtain ⟨ka,rfl⟩:=Rz h2;obtain ⟨kb,rfl⟩:=Rz h4;obtain ⟨v,h5,h6,h7⟩:=Sv (P:=P) (n:=n) (w:=w) (ty:=ty) (ρ:=ρ) (c:=cx G ρ w) h hob ka kb h1 h3;exact y0 h5 h6 (r_ h7)
  ·rename_i a b hx hy;obtain ⟨va,h1,h2⟩:=aq hf hx;obtain ⟨vb,h3,h4⟩:=aq hf hy;obtain ⟨ka,rfl⟩:=Rz h2;cases h4 with | u64 ib=>
   obtain ⟨v,h5,h6,h7⟩:=Rc (P:=P) (n:=n) (w:=w) (ty:=ty) (ρ:=ρ) (c:=cx G ρ w) h hob ka h1 h3;exact y0 h5 h6 (r_ h7)
  ·rename_i a b hx hy;obtain ⟨va,h1,h2⟩:=aq hf hx;obtain ⟨vb,h3,h4⟩:=aq hf hy;cases h2 with | int ia=>
   cases h4 with | u64 ib=>
   unfold iSh at h;split at h
   ·cases h;have g0:=hob _ (.head _);have g1:=hob _ (.tail _ (.head _));obtain ⟨m,rfl⟩:=ab9 g0;have hd:=agY m (2 ^ b);refine y0 (R.Mi h1 h3 (ahE g1)) ?_ (by simp);rw [adm];generalize m / 2 ^ b=q at hd;exact Pd.int ⟨by omega,by have:=ia.2; omega⟩
   cases h
  cases h
 ·-- convert
  split at h
  ·rename_i b hs hd hx;cases h;obtain ⟨va,h1,h2⟩:=aq hf hx;cases h2 with | u8=>
   have e1:=(hT _ _ hs).2;have e2:=(hT _ _ hd).2;have:=R.conv (P:=P) (n:=n) (w:=w) (ty:=ty) h1 e1 e2
   have hb:=b.toNat_lt;rw [wrap_u32 (by omega)] at this;exact y0 this (zq aK) (by simp)
  ·rename_i m hs hd hx;cases h;obtain ⟨va,h1,h2⟩:=aq hf hx;obtain ⟨_,rfl⟩:=Rz h2;exact y0 (R.XP h1 (hT _ _ hs).2 (hT _ _ hd).2) Pd.u8 (by simp)
  cases h
 ·-- lookup
  split at h
  ·rename_i kt et z sz zz l k hft hx hy;obtain ⟨hm,hk,hz⟩:=(hT _ _ hft).2;obtain ⟨va,h1,us,h2,h3⟩:=aq hf hx;obtain ⟨vb,h4,h5⟩:=aq hf hy;cases h5 with | int=>
   obtain ⟨_,g,a,n',rfl,_,hg,hkeys,hv⟩:=h3;have hval:Zy z l=true->(getM k a.toList).getD (.agg (z.map KC.val).toArray) = .agg (((dA l k).getD z).map KC.val).toArray/\(getM k a.toList).isSome=(dA l k).isSome:=fun _=>by
    rw [hv k]; cases dA l k <;> exact ⟨rfl,rfl⟩
   have hrd:Zy z l=true->cO (cx G ρ w) ρ (.agg (Cp ((dA l k).getD z) 0 z)) (.agg (((dA l k).getD z).map KC.val).toArray):=fun hb=>⟨_,rfl,pZ (CD hb) fun j=>by rw [ac_]⟩;split at h
   ·rename_i hb;cases h;have hrun:=R.qe (P:=P) (n:=n) (ty:=ty) false h1 h4 hm hk hz hg hkeys;rw [if_neg (by decide),(hval hb).1] at hrun;exact y0 hrun (hrd hb) (by simp)
   ·rename_i hb;cases h;have hrun:=R.qe (P:=P) (n:=n) (ty:=ty) true h1 h4 hm hk hz hg hkeys;rw [if_pos rfl,(hval hb).1,(hval hb).2] at hrun;exact y0 hrun ⟨_,rfl,.cons (hrd hb) (.cons (Pd.bool (e:=.atom _)) .nil)⟩ (by simp)
   cases h
  cases h
 ·-- field
  rename_i i;split at h
  ·rename_i fs sz z cs hft hx hmem;split at h
   ·rename_i o k hi;split at h
    ·rename_i a ha;cases h;obtain ⟨_,Fs,hu,hm,hp,_,hfl⟩:=hT _ _ hft;obtain ⟨f,d,hf1,hf2,hf3⟩:=hfl _ hmem;obtain ⟨f',hf',hfs⟩:=wo hm _ _ hi;have e:f' = f:=by
      have:Fs[i]? = some f':=by simpa using hf'
      rw [this] at hf1; exact adb hf1
     subst e;rw [adg] at hfs;obtain ⟨inf,hinf,he⟩:=hfs;cases he;obtain ⟨va,h1,us,rfl,h2⟩:=aq hf hx;obtain ⟨u,hu1,hu2⟩:=dC h2 _ _ ha;exact y0 (R.XO h1 hu hf1 hf2 hf3 hu1) hu2 (by simp)
    cases h
   cases h
  cases h
 ·-- makeFunc
  rename_i f b c;split at h
  ·rename_i bs cs hb hc;split at h
   ·rename_i bp cp hbp hcp;cases h;obtain ⟨bv,h1,h2⟩:=kW hf hb;obtain ⟨cv,h3,h4⟩:=kW hf hc;have:=R.FZ (P:=P) (n:=n) (w:=w) (ty:=ty) (f:=f) h1 h3;rw [show b.toList.toArray=b by simp,show c.toList.toArray=c by simp] at this;exact y0 this ⟨bv,cv,ni hbp h2,ni hcp h4,rfl⟩ (by simp)
   cases h
  cases h
 ·-- indexAddr
  split at h
  ·rename_i id i m e sz z hx hy hft;split at h
   ·rename_i tb cs z1 hH hfe;split at h
    ·rename_i hck;cases h;have h0:=hob _ (.head _);have h1':=hob _ (.tail _ (.head _));obtain ⟨j,rfl⟩:=ab9 h0;obtain ⟨va,h1,h2⟩:=aq hf hx;obtain ⟨vb,h3,h4⟩:=aq hf hy;cases h4 with | int=>
     obtain ⟨g,hg,rfl⟩:dP ρ (id,0) va:=h2;have hse:(P.info? e).map (·.size)=some 1:=(hT _ _ hfe).1.1;exact y0 (R.gL h1 h3 (hT _ _ hft).2 hse (by omega)) ⟨g,hg,by rw [adm]⟩ (by simp)
    cases h
   cases h
  cases h
 ·-- slice,three places
  split at h
  ·rename_i a l' h' m' hx hl hh hm;obtain ⟨va,h1,h2⟩:=aq hf hx;obtain ⟨vl,h3,h4⟩:=aq hf hl;obtain ⟨vh,h5,h6⟩:=aq hf hh;obtain ⟨vm,h7,h8⟩:=aq hf hm;cases h4 with | int=>
   cases h6 with | int=>
   cases h8 with | int=>
   obtain ⟨e,s,A,len,cap,i,j,k,hu,hi,rfl,rfl,rfl,rfl,b1,b2,b3,hrd,hfc⟩:=qD (P:=P) hT h hob h2;exact y0 (R.slice3 h1 h3 h5 h7 hu hi b1 b2 b3) hrd (r_ hfc)
  cases h
 ·split at h
  ·rename_i a h' m' hx hh hm;obtain ⟨va,h1,h2⟩:=aq hf hx;obtain ⟨vh,h5,h6⟩:=aq hf hh;obtain ⟨vm,h7,h8⟩:=aq hf hm;cases h6 with | int=>
   cases h8 with | int=>
   obtain ⟨e,s,A,len,cap,i,j,k,hu,hi,rfl,hi0,rfl,rfl,b1,b2,b3,hrd,hfc⟩:=qD (P:=P) hT h hob h2;obtain rfl:i=0:=by omega
   exact y0 (R.SX h1 h5 h7 hu hi b2 b3) hrd (r_ hfc)
  cases h
 ·rename_i t parts;split at h
  ·rename_i m e sz z l ht hl;split at h
   ·rename_i cs he hb;cases h;obtain ⟨pv,h1,h2⟩:=jB hf hl;obtain ⟨us,h3,h4⟩:=rK (P:=P) (n:=n) (w:=w) (ty:=ty) hT ht (hT _ _ he).1.1 h1 h2 hb;have e:parts.toList.toArray=parts:=by simp
    rw [e] at h3;exact y0 h3 ⟨us,rfl,h4⟩ (by simp)
   cases h
  cases h
 cases h
theorem ru (hT:aY P G.shp T) (hO:ay P G.shp O) (hR:Rep G ρ H w) {fr:AFr} (hf:FrR (cx G ρ w) ρ fr F) (h:pv T O H fr op=some r) (hob:∀ p ∈ r.ob,p) :
  Yields P n F w op ty fun v w'=>Kp [] w w' /\ Rt (cx G ρ w') ρ r.v v/\∀ p ∈ r.fc,p:=by
 unfold pv at h;split at h
 ·cases h; exact PB hT hO hR hf (by assumption) hob
 exact RZ hT hR hf h hob
end
def iW (d:Option Nat) (v:Value) (F:Fr):Fr:=match d with
 | some d=>(d,v) :: F
 | none=>F
def jR (n:Nat):List Oper->Bool
 | []=>true
 | o :: r=>(match o.dst with
  | some d=>Nat.blt d n
  | none=>true) && jR n r
theorem kL {n:Nat}:∀ {l:List Oper},jR n l=true->∀ o ∈ l,∀ d,o.dst=some d->Nat.blt d n=true
 | [],_,_,h,_,_=>by simp at h
 | a :: r,h,o,ho,d,hd=>by
  simp only [jR,Bool.and_eq_true] at h;rcases ac4.1 ho with rfl | ho
  ·grind
  exact kL h.2 o ho d hd
section
variable {P:Program} {Q:Exit->Act->World->Prop} {n:Nat} {l rest:List Oper} {F:Fr} {w:World} {op:Op} {ty:TypeId} {pos:String} {af:Array Edge}
variable {d:Option Nat}
theorem WO.y {φ:Value->World->Prop} (h:Yields P n F w op ty φ) (hd:∀ d',d=some d' -> Nat.blt d' n=true) (k:∀ v w',φ v w' -> WO P Q n l rest (iW d v F) w'):WO P Q n l (⟨d,op,ty,pos,af,none⟩ :: rest) F w:=by
 cases d with
 | some d=>
  rcases h with ⟨v,w',h1,h2⟩ | ⟨f,args,h1,h2⟩
  ·exact WO.v h1 (hd _ rfl) (k v w' h2)
  exact WO.c h1 h2 (hd _ rfl) k
 | none=>
  rcases h with ⟨v,w',h1,h2⟩ | ⟨f,args,h1,h2⟩
  ·exact WO.v0 h1 (k v w' h2)
  exact WO.c0 h1 h2 k
variable {i:Nat} {ρ:List RE}
theorem Gj {c:Cx} {fr:AFr} (h:FrR c ρ fr F) (hx:lookA fr i=none):look F i=none:=by
 induction h with
 | nil=>rfl
 | @cons p q fr F hp _ ih=>
  obtain ⟨i2,v2⟩:=q;unfold lookA at hx;unfold look;grind
theorem gJ {c:Cx} {fr:AFr} (h:FrR c ρ fr F) (hd:iG fr d=true):∀ d',d=some d' -> look F d' = none:=by
 rintro d' rfl;simp only [iG] at hd;split at hd
 ·rename_i he; exact Gj h he
 cases hd
theorem iN {F:Fr} {i:Nat} {v:Value} (hv:look F i=some v):∀ {us:Fr},(∀ q ∈ us,look F q.1=none)->look (us++F) i=some v
 | [],_=>hv
 | (j,u) :: us,h=>by
  rw [List.cons_append,aM];by_cases hj:j=i
  ·simp_all
  rw [if_neg hj]; exact iN hv fun q hq=>h q (by simp [hq])
variable {us:Fr}
theorem WO.drop (h:∀ q ∈ us,look F q.1=none) (k:WO P Q n l rest F w):WO P Q n l rest (us++F) w:=fun a ha=>k a (ha.sub fun _ _ hv=>iN hv h)
theorem WO.O_ {x:Nat × Value} (h:∀ q ∈ us,look F q.1=none) (k:WO P Q n l rest (x :: F) w):WO P Q n l rest (x :: (us++F)) w:=fun a ha=>k a (ha.sub fun i v hv=>by
 obtain ⟨j,u⟩:=x;rw [aM] at hv ⊢;by_cases hj:j=i
 ·grind
 rw [if_neg hj] at hv ⊢; exact iN hv h)
theorem HH (h:∀ q ∈ us,q.1≠i):look (us++F) i=look F i:=zm h
theorem vU {a b:Option (Nat × Bool)} (h:MK a b=true):a=b:=by
 unfold MK at h;split at h
 ·rfl
 ·simp_all
 cases h
theorem qI {F:Fr} {q:Nat × Value}:∀ {us:Fr},q ∈ us->(∀ q ∈ us,q.2=undef)->look (us++F) q.1=some undef
 | (i,u) :: us,hq,hus=>by
  rw [List.cons_append,aM];by_cases hi:i=q.1
  ·simp_all
  rw [if_neg hi];refine qI ?_ (fun z hz=>hus z (by simp [hz]));grind
theorem kX {fr:AFr} {c:Cx} {ρ:List RE} (hf:FrR c ρ fr F) {j t:Nat} {wt b:Bool} (hj:idst l j=some t) (hv:look F t=some (.bool b)) (hb:b = !wt):∀ {grp:List Oper} {us:Fr},BB l fr j wt (us.map (·.1)) grp=true->jR n grp=true->(∀ q ∈ us,look F q.1=none/\q.2=undef)->WO P Q n l rest F w->WO P Q n l (grp++rest) (us++F) w
 | [],us,_,_,hus,k=>WO.drop (fun q hq=>(hus q hq).1) k
 | o :: r,us,h,hd,hus,k=>by
  have hdo:=kL hd o (by simp);have hdr:jR n r=true:=by simp only [jR,Bool.and_eq_true] at hd; exact hd.2
  obtain ⟨dst,op,ty,pos,af,g⟩:=o;simp only [BB,Bool.and_eq_true] at h;obtain ⟨⟨h1,h2⟩,h3⟩:=h;have hne:∀ q ∈ us,q.1≠t:=fun q hq e=>by have:=(hus q hq).1; rw [e,hv] at this; cases this
  have hv':look (us++F) t=some (.bool b):=by rw [HH hne]; exact hv
  cases g with
  | none=>cases h2
  | some g=>
  simp only [Bool.or_eq_true,Bool.and_eq_true,beq_iff_eq] at h2;have hnew:∀ d,dst=some d->∀ q ∈ ((d,undef) :: us:Fr),look F q.1=none/\q.2=undef:=fun d hdd q hq=>by
   rcases ac4.1 hq with rfl | hq
   ·exact ⟨gJ hf h1 d hdd,rfl⟩
   grind
  rcases h2 with ⟨e1,e2⟩ | h2
  ·have e1:=abk e1;subst e1; subst e2;cases dst with
   | some d=>exact WO.off hj hv' hb (hdo d rfl) (kX hf hj hv hb (us:=(d,undef) :: us) h3 hdr (hnew d rfl) k)
   | none=>exact WO.abx hj hv' hb (kX hf hj hv hb h3 hdr hus k)
  split at h2
  ·rename_i t' ht';obtain ⟨q,hq,rfl⟩:=aho.1 (bj.1 h2);have hlu:look (us++F) q.1=some undef:=qI hq fun z hz=>(hus z hz).2;cases dst with
   | some d=>exact WO.Wd ht' hlu (hdo d rfl) (kX hf hj hv hb (us:=(d,undef) :: us) h3 hdr (hnew d rfl) k)
   | none=>exact WO.TJ ht' hlu (kX hf hj hv hb h3 hdr hus k)
  cases h2
theorem oC {t:Nat}:∀ {ops grp tail:List Oper} {pk:Oper},sA t ops=some (grp,pk,tail)->ops=grp++pk :: tail/\oH t pk=true
 | [],_,_,_,h=>by cases h
 | o :: r,grp,tail,pk,h=>by
  unfold sA at h;cases hp:oH t o <;> rw [hp] at h
  ·simp only [cond_false] at h;split at h
   ·rename_i a b c hs;obtain ⟨h1,h2⟩:=oC hs;grind
   cases h
  grind
theorem nH {n:Nat}:∀ {a b:List Oper},jR n (a++b)=true↔jR n a=true/\jR n b=true
 | [],b=>by simp [jR]
 | o :: r,b=>by simp [jR,nH,and_assoc]
end
theorem dZ:∀ {l:List Prop},iQ l↔∀ p ∈ l,p
 | []=>by simp [iQ]
 | [p]=>⟨fun h q hq=>by rw [ac2.1 hq]; exact h,fun h=>h p (ab3 _)⟩
 | p :: q :: l=>by
  have:=dZ (l:=q :: l);simp only [iQ,this,agH]
variable {w:Bool} {e:BE}
theorem Hu {ob:List Prop} (h:∀ p ∈ n_ e w ob,p) (he:e.val=w):∀ p ∈ ob,p:=by
 cases ob with
 | nil=>simp
 | cons p ob=>exact dZ.1 (h _ (ab3 _) ((BE.fh e w).2 he))
theorem vB {ob:List Prop} (h:e.val=w->∀ p ∈ ob,p):∀ p ∈ n_ e w ob,p:=by
 cases ob with
 | nil=>simp [n_]
 | cons p ob=>
  intro q hq;rw [ac2.1 hq];exact fun he=>dZ.2 (h ((BE.fh e w).1 he))
theorem dy {tv:Option TV} (h:pI tv=some e):tv=some (one (.bool e)):=by
 unfold pI at h;split at h
 ·cases h; rfl
 cases h
section
variable {P:Program} {T:List (Nat × TI)} {G:Gl} {O:bD} {Q:Exit->Act->World->Prop} {n:Nat} {l:List Oper} {ρ:List RE} {H:AH}
def Zx (l:List Oper) (fr:AFr) (g:Option (Nat × Bool)):Prop:=∀ j wt,g=some (j,wt)->∃ t e,idst l j=some t/\lookA fr t=some (one (.bool e))/\e.val=wt
variable {j:Nat}
theorem cZ {i:Nat} {v:TV} {r:AFr}:lookA ((j,v) :: r) i=if j=i then some v else lookA r i:=by
 show (bif Nat.beq j i then some v else lookA r i)=_;simp_all
theorem Zx.put {fr:AFr} {g:Option (Nat × Bool)} (h:Zx l fr g) {d:Option Nat} {v:TV} (hd:iG fr d=true):Zx l (pG d v fr) g:=by
 intro j wt hg;obtain ⟨t,e,h1,h2,h3⟩:=h j wt hg;refine ⟨t,e,h1,?_,h3⟩;cases d with
 | none=>exact h2
 | some d=>
  show lookA ((d,v) :: fr) t=_;rw [cZ,if_neg]
  ·exact h2
  rintro rfl;simp only [iG,h2] at hd;cases hd
variable {w:World} {F:Fr}
theorem WO.onG {fr:AFr} {g:Option (Nat × Bool)} (hg:Zx l fr g) (hf:FrR (cx G ρ w) ρ fr F) {A:Fr} (hA:∀ x ∈ A,look F x.1=none) {dst:Option Nat} {op:Op} {ty:TypeId} {pos:String} {af:Array Edge} {rest:List Oper}
  (k:WO P Q n l (⟨dst,op,ty,pos,af,none⟩ :: rest) (A++F) w):WO P Q n l (⟨dst,op,ty,pos,af,g⟩ :: rest) (A++F) w:=by
 cases g with
 | none=>exact k
 | some g=>
  obtain ⟨j,wt⟩:=g;obtain ⟨t,e,h1,h2,h3⟩:=hg j wt rfl;obtain ⟨v,h4,h5⟩:=ew hf h2;cases h5 with | bool=>
  exact WO.on h1 (iN h4 hA) h3 k
def acY (P:Program) (G:Gl) (Q:Exit->Act->World->Prop) (n:Nat) (l:List Oper) (ρ:List RE) (H:AH) (run:Option (Nat × Bool)->List Oper->AFr->Option GR):Prop:=
 ∀ (g:Option (Nat × Bool)) (ops tail:List Oper) (fr:AFr) (q:GR) (F:Fr) (w:World),run g ops fr=some q->Zx l fr g->(∀ p ∈ q.ob,p)->jR n ops=true->Rep G ρ H w->FrR (cx G ρ w) ρ fr F ->
  (∀ A w',Kp [] w w' -> (∀ p ∈ q.fc,p)->FrR (cx G ρ w') ρ q.fr (A++F)->FrR (cx G ρ w') ρ fr F->(∀ x ∈ A,look F x.1=none)->WO P Q n l tail (A++F) w')->WO P Q n l (ops++tail) F w
theorem FrR.kp {fr:AFr} {w':World} (h:FrR (cx G ρ w) ρ fr F) (k:Kp [] w w'):FrR (cx G ρ w') ρ fr F:=h.carry (Kp.le k) (jP.refl _)
theorem DH {run:Option (Nat × Bool)->List Oper->AFr->Option GR} (hrun:acY P G Q n l ρ H run) {g:Option (Nat × Bool)} {ops tl:List Oper} {fr:AFr} {wt:Bool} {r:GrpR} (h:Pb l fr g run j wt ops=some r) (hg:Zx l fr g) (hob:∀ p ∈ r.ob,p) (hd:jR n ops=true) (hR:Rep G ρ H w) (hf:FrR (cx G ρ w) ρ fr F)
  (k:∀ w',Kp [] w w' -> (∀ p ∈ r.fc,p)->look F r.d=none->iG fr (some r.d)=true->FrR (cx G ρ w') ρ fr F->Nat.blt r.d n=true->jR n r.tail=true->WO P Q n l (r.tail++tl) ((r.d,.bool r.v.val) :: F) w'):WO P Q n l (ops++tl) F w:=by
 unfold Pb at h;split at h
 ·rename_i t hj;split at h
  ·rename_i e grp pk tail he hs;split at h
   ·rename_i q hck hq;simp only [Bool.and_eq_true] at hck;obtain ⟨⟨hoff,hpg⟩,hfresh⟩:=hck;split at h
    ·rename_i z x y d hpk hpd;split at h
     ·rename_i v hv;cases h;obtain ⟨hops,hip⟩:=oC hs;subst hops;replace hpg:=vU hpg;replace he:=dy he;obtain ⟨vt,hvt,hvr⟩:=ew hf he;cases hvr with | bool=>
      obtain ⟨hd1,hd2⟩:=nH.1 hd;have hd3:jR n tail=true:=by simp only [jR,Bool.and_eq_true] at hd2; exact hd2.2
      have hdd:Nat.blt d n=true:=kL hd2 pk (by simp) d hpd;rw [hpd] at hfresh;have hFd:look F d=none:=gJ hf hfresh d rfl;obtain ⟨dst,op,ty,pos,af,pg⟩:=pk;simp only at hpk hpd hpg;subst hpk; subst hpd; subst hpg;have hz:z = .tmp t:=by
       cases z <;> simp only [oH] at hip
       ·rw [abk hip]
       all_goals cases hip
      subst hz;rw [List.append_assoc,List.cons_append]
      -- the pick
      have pick:∀ (A:Fr) (w':World) (b:Bool),e.val=b->(∀ u ∈ A,look F u.1=none)->Kp [] w w' -> (∀ p ∈ n_ e wt q.fc,p)->FrR (cx G ρ w') ρ fr F->(∃ u,ev (A++F) (cond b x y)=some (.bool u)/\u=v.val)->WO P Q n l (⟨some d,.pick (.tmp t) x y,ty,pos,af,pg⟩ :: (tail++tl)) (A++F) w':=by
       rintro A w' b hb hA hk hfc hf' ⟨u,hu,hv2⟩;subst hv2;refine WO.onG (G:=G) (ρ:=ρ) hg hf' hA ?_;have hl:ev (A++F) (.tmp t)=some (.bool e.val):=iN hvt hA;have key:=WO.O_ (x:=(d,.bool v.val)) hA (k w' hk hfc hFd hfresh hf' hdd hd3);cases b with
       | true=>exact WO.v (R.xQ hl hb hu) hdd key
       | false=>exact WO.v (R.Ai hl hb hu) hdd key
      unfold DF at hv;by_cases hew:e.val=wt
      ·-- it is run
       refine hrun (some (j,wt)) grp _ fr q F w hq (fun j' w' hjw=>by cases hjw; exact ⟨t,e,hj,he,hew⟩) (Hu hob hew) hd1 hR hf fun A w' hk hfc hfq hf' hA=>?_;refine pick A w' wt hew hA hk (vB fun _=>hfc) hf' ?_;split at hv
       ·rename_i a hon hoff';cases hv;obtain ⟨u,h1,h2⟩:=aq hfq (dy hon);cases h2 with | bool=>
        exact ⟨_,h1,by simp [BE.val,hew]⟩
       ·rename_i a hon hoff';cases hv;obtain ⟨u,h1,h2⟩:=aq hfq (dy hon);cases h2 with | bool=>
        exact ⟨_,h1,by simp [BE.val,hew]⟩
       cases hv
      have hew':e.val = !wt:=by revert hew; cases e.val <;> cases wt <;> simp
      refine kX (us:=[]) hf hj hvt hew' hoff hd1 (by simp) ?_;refine pick [] w (!wt) hew' (by simp) (Kp.refl w) (vB fun hh=>absurd hh hew) hf ?_;split at hv
      ·rename_i a hon hoff';cases hv;obtain ⟨u,h1,h2⟩:=aq hf (dy hoff');cases h2 with | bool=>
       exact ⟨_,h1,by simp [BE.val,hew']⟩
      ·rename_i a hon hoff';cases hv;obtain ⟨u,h1,h2⟩:=aq hf (dy hoff');cases h2 with | bool=>
       exact ⟨_,h1,by simp [BE.val,hew']⟩
      cases hv
     cases h
    cases h
   cases h
  cases h
 cases h
theorem mA (hT:aY P G.shp T) (hO:ay P G.shp O):∀ m,acY P G Q n l ρ H (GQ T O l H m)
 | 0=>fun g ops tail fr q F w h=>by cases ops <;> cases h
 | m+1=>by
  intro g ops tail fr q F w h hg hob hd hR hf k;cases ops with
  | nil=>
   cases h;exact k [] w (Kp.refl w) (by simp) hf hf (by simp)
  | cons o rest=>
   have hdo:=kL hd o (by simp);have hdr:jR n rest=true:=by simp only [jR,Bool.and_eq_true] at hd; exact hd.2
   unfold GQ at h;split at h
   ·rename_i hgo;replace hgo:=vU hgo;split at h
    ·rename_i r hfr hpv;split at h
     ·rename_i q2 hq2;cases h;obtain ⟨dst,op,ty,pos,af,og⟩:=o;simp only at hgo hfr hpv hdo hq2;subst hgo;rw [List.cons_append];refine WO.onG (A:=[]) (G:=G) (ρ:=ρ) hg hf (by simp) ?_;change WO P Q n l _ F w;refine WO.y (ru (ty:=ty) hT hO hR hf hpv fun p hp=>hob p (by simp [hp])) hdo fun v w1 ⟨hk1,hv1,hfc1⟩=>?_;have hf1:FrR (cx G ρ w1) ρ (pG dst r.v fr) (iW dst v F):=by
       cases dst with
       | some d=>exact .cons ⟨rfl,hv1⟩ (hf.kp hk1)
       | none=>exact hf.kp hk1
      refine mA hT hO m og rest tail _ q2 _ w1 hq2 (hg.put hfr) (fun p hp=>hob p (by simp [hp])) hdr (hR.kp hk1) hf1 fun A w2 hk2 hfc2 hfq _ hA=>?_;have hA2:∀ x ∈ A++iW dst v [],look F x.1=none:=by
       intro x hx;rcases ac1.1 hx with hx | hx
       ·have:=hA x hx;cases dst with
        | none=>exact this
        | some d=>
         simp only [iW] at this;rw [aM] at this;by_cases hdx:d=x.1
         ·rw [if_pos hdx] at this; cases this
         rw [if_neg hdx] at this; exact this
       cases dst with
       | none=>simp [iW] at hx
       | some d=>simp only [iW,ac2] at hx; subst hx; exact gJ hf hfr d rfl
      have e:A++iW dst v F=(A++iW dst v [])++F:=by cases dst <;> simp [iW]
      rw [e] at hfq ⊢;exact k _ w2 (hk1.trans hk2) (fun p hp=>by
       rcases ac1.1 hp with hp | hp
       ·exact hfc1 p hp
       exact hfc2 p hp) hfq ((hf.kp hk1).kp hk2) hA2
     cases h
    cases h
   split at h
   ·rename_i j wt hog;split at h
    ·rename_i r hgr;split at h
     ·rename_i q2 hq2;cases h;refine DH (G:=G) (H:=H) (mA hT hO m) hgr hg (fun p hp=>hob p (by simp [hp])) hd hR hf fun w1 hk1 hfc1 hFd hfd hf1 hbd hdt=>?_;have hf2:FrR (cx G ρ w1) ρ ((r.d,one (.bool r.v)) :: fr) ((r.d,.bool r.v.val) :: F):=.cons ⟨rfl,Pd.bool⟩ hf1;refine mA hT hO m g r.tail tail _ q2 _ w1 hq2 (hg.put (d:=some r.d) hfd) (fun p hp=>hob p (by simp [hp])) hdt (hR.kp hk1) hf2 fun A w2 hk2 hfc2 hfq _ hA=>?_;have hA2:∀ x ∈ A++[(r.d,Value.bool r.v.val)],look F x.1=none:=by
       intro x hx;rcases ac1.1 hx with hx | hx
       ·have:=hA x hx;rw [aM] at this;by_cases hdx:r.d=x.1
        ·rw [if_pos hdx] at this; cases this
        rw [if_neg hdx] at this; exact this
       simp only [ac2] at hx; subst hx; exact hFd
      have e:A++((r.d,Value.bool r.v.val) :: F)=(A++[(r.d,Value.bool r.v.val)])++F:=by simp
      rw [e] at hfq ⊢;exact k _ w2 (hk1.trans hk2) (fun p hp=>by
       rcases ac1.1 hp with hp | hp
       ·exact hfc1 p hp
       exact hfc2 p hp) hfq (hf1.kp hk2) hA2
     cases h
    cases h
   cases h
end
variable {r:RE} {i:Nat} {ρ:List RE}
theorem sQ {r':RE} (h:ρ[i]? = some r'):(ρ++[r])[i]? = some r':=by
 rw [List.getElem?_append_left (aam.1 h).1]; exact h
structure Stp (ro:Lv) (ρ:List RE) (w:World) (ρ':List RE) (w':World):Prop where
 ext:Ext ρ w ρ' w'
 loc:∀ (i:Nat) (r:RE),ro.mv i=false->ρ[i]? = some r->ρ'[i]? = some r
 pro:∀ (i:Nat) (r:RE),ro.wr i=false->ρ[i]? = some r->ρ'[i]? = some r/\∀ g,r.g? = some g->w'.heap[g]? = w.heap[g]?
 bx:∀ (i g:Nat),ρ[i]? = some (.blk g)->ρ'[i]? = some (.blk g)
theorem Stp.refl (ro:Lv) (ρ:List RE) (w:World):Stp ro ρ w ρ w:=⟨Ext.refl _ _,fun _ _ _ h=>h,fun _ _ _ h=>⟨h,fun _ _=>rfl⟩,fun _ _ h=>h⟩
theorem Stp.trans {ro:Lv} {ρ0 ρ1 ρ2:List RE} {a b c:World} (h:Stp ro ρ0 a ρ1 b) (k:Stp ro ρ1 b ρ2 c):Stp ro ρ0 a ρ2 c:=
 ⟨h.ext.trans k.ext,fun i r hi hr=>k.loc i r hi (h.loc i r hi hr),fun i r hi hr=>by
  obtain ⟨h1,h2⟩:=h.pro i r hi hr;obtain ⟨h3,h4⟩:=k.pro i r hi h1;exact ⟨h3,fun g hg=>(h4 g hg).trans (h2 g hg)⟩,fun i g hi=>k.bx i g (h.bx i g hi)⟩
theorem Stp.kp {ro:Lv} {G:Gl} {H:AH} {ρ:List RE} {w w':World} (hR:Rep G ρ H w) (k:Kp [] w w'):Stp ro ρ w ρ w':=
 ⟨Ext.kp k,fun _ _ _ h=>h,fun _ r _ h=>⟨h,fun g hg=>k.block g (hR.bnd _ r g h hg).2.1 (by simp)⟩,fun _ _ h=>h⟩
theorem Stp.app {ro:Lv} {G:Gl} {H:AH} {ρ:List RE} {w w':World} {r:RE} (hR:Rep G ρ H w) (k:Kp [] w w') (hr:∀ g',r.g? = some g' -> w.heap.size<=g'):Stp ro ρ w (ρ++[r]) w':=
 ⟨Ext.app k hr,fun _ _ _ h=>sQ h,fun i r' _ h=>⟨sQ h,fun g hg=>k.block g (hR.bnd _ r' g h hg).2.1 (by simp)⟩,fun _ _ h=>sQ h⟩
section
variable {c c':Cx} {ρ ρ':List RE} {g:AV->AV}
variable {vs:List Value}
theorem CF (hg:∀ a v,Rd c ρ a v->Rd c' ρ' (g a) v) {asx:List AV} (h:All2 (Rd c ρ) asx vs):All2 (Rd c' ρ') (qN g asx) vs:=by
 induction h with
 | nil=>exact .nil
 | cons h _ ih=>exact .cons (hg _ _ h) ih
theorem vJ (hg:∀ a v,Rd c ρ a v->Rd c' ρ' (g a) v) {t:TV1} {v:Value} (h:cO c ρ t v):cO c' ρ' (t.mapA g) v:=by
 cases t with
 | c a=>exact hg _ _ h
 | agg l=>obtain ⟨vs,rfl,h⟩:=h; exact ⟨vs,rfl,CF hg h⟩
theorem DT (hg:∀ a v,Rd c ρ a v->Rd c' ρ' (g a) v) {asx:List TV1} (h:All2 (cO c ρ) asx vs):All2 (cO c' ρ') (wO g asx) vs:=by
 induction h with
 | nil=>exact .nil
 | cons h _ ih=>exact .cons (vJ hg h) ih
theorem rH (hg:∀ a v,Rd c ρ a v->Rd c' ρ' (g a) v) {fr:AFr} {F:Fr} (h:FrR c ρ fr F):FrR c' ρ' (iU g fr) F:=by
 induction h with
 | nil=>exact .nil
 | @cons p q fr F h _ ih=>
  obtain ⟨i,t⟩:=p;refine .cons ⟨h.1,?_⟩ ih;have h2:=h.2;cases t with
  | one t=>exact vJ hg h2
  | tup l=>obtain ⟨vs,e,h2⟩:=h2; exact ⟨vs,e,DT hg h2⟩
  | un=>trivial
theorem ql:∀ l:List (Int × AV),mapM g l=l.map fun q=>(q.1,g q.2)
 | []=>rfl
 | (k,a) :: r=>by simp [mapM,ql r]
theorem lh:∀ {H:AH} {i:Nat},(ic g H)[i]? = (H[i]?).map (AO.mapA g)
 | [],i=>by simp [ic]
 | o :: r,0=>by simp [ic]
 | o :: r,i+1=>by simpa [ic] using lh (H:=r) (i:=i)
theorem eL:∀ {H:AH},(ic g H).length=H.length
 | []=>rfl
 | _ :: r=>by simp [ic,eL]
theorem OR.map (hc:c.le c') (hg:∀ a v,Rd c ρ a v->Rd c' ρ' (g a) v) {o:AO} {r:RE} (h:OR c ρ o r) (hb:∀ g,r.g? = some g->c'.w.heap[g]? = c.w.heap[g]?):OR c' ρ' (o.mapA g) r:=by
 cases o with
 | gone=>exact h
 | mapo s f=>
  obtain ⟨g',rfl,h⟩:=h;exact ⟨g',rfl,h.carry hc (hb g' rfl)⟩
 | loc=>trivial
 | mapf l=>
  obtain ⟨g',rfl,h⟩:=h;exact ⟨g',rfl,h.map (g0:=g) (ql l) (fun _ _ v h=>hg _ v h) (hb g' rfl)⟩
 | arr t s n xs=>
  obtain ⟨g',vs,rfl,h1,h2,h3⟩:=h;exact ⟨g',vs,rfl,(hb g' rfl).trans h1,h2.carry hc,h3⟩
 | box t cs=>
  obtain ⟨g',vs,rfl,h1,h2⟩:=h;exact ⟨g',vs,rfl,(hb g' rfl).trans h1,CF hg h2⟩
 | row t s xs=>
  obtain ⟨h1,h2,h3⟩:=h;refine ⟨hc.shp ▸ h1,h2,h3.imp id ?_⟩;rintro ⟨g',cap,cells,sp,rfl,h4,h5,h6⟩;exact ⟨g',cap,cells,sp,rfl,(hb g' rfl).trans h4,h5.carry hc,h6⟩
end
theorem iE {j:Nat} (hij:i≠j):(ρ.set i r)[j]? = ρ[j]?:=List.getElem?_set_ne hij
theorem yJ {b:Nat} (h:live (ρ.set i r) b):live ρ b\/r.g? = some b:=by
 obtain ⟨j,r',h1,h2⟩:=h;by_cases hij:i=j
 ·grind
 rw [iE hij] at h1; exact .inl ⟨j,r',h1,h2⟩
section
variable {G:Gl} {ρ:List RE} {H:AH} {w:World}
variable {t:TypeId}
theorem ma (hR:Rep G ρ H w) {s:Sh} {xs:List (den s)} (hi:getO H i = .row t s xs):(∀ g,ρ[i]? ≠ some (.blk g))/\i<ρ.length/\i<H.length:=by
 have hH:=bB hi (by simp);have h1:=(aam.1 hH).1;refine ⟨fun g hg=>?_,by rw [<- hR.obj.length]; exact h1,h1⟩;rcases bl hR hi with ⟨h,_⟩ | ⟨_,_,_,_,h,_⟩ <;> rw [h] at hg <;> cases hg
variable {ro:Lv}
theorem aez (hR:Rep G ρ H w) {s:Sh} {xs:List (den s)} (hi:getO H i = .row t s xs) (hro:ro.mv i=true) (hro2:ro.wr i=true) :
  (∀ a v,Rd (cx G ρ w) ρ a v->Rd (cx G (ρ.set i .no) w) (ρ.set i .no) (a.Ht H i) v)/\Rep G (ρ.set i .no) ((ic (AV.Ht H i) H).set i .gone) w/\Stp ro ρ w (ρ.set i .no) w/\(cx G ρ w).le (cx G (ρ.set i .no) w):=by
 obtain ⟨hnb,hil,hiH⟩:=ma hR hi;have hext:Ext ρ w (ρ.set i .no) w:=⟨rfl,rfl,rfl,ac5 _,fun b _ hl=>⟨fun h=>(yJ h).elim hl (by rintro ⟨⟩),rfl⟩⟩;have hle:=hext.le hR.lo;have hne:∀ j r,i≠j->ρ[j]? = some r->(ρ.set i .no)[j]? = some r:=fun j r hij h=>by rw [iE hij]; exact h
 have hcap:∀ q v,dP ρ q v->dP (ρ.set i .no) q v:=fun q v ⟨g,h1,h2⟩=>⟨g,hne _ _ (fun e=>hnb g (e ▸ h1)) h1,h2⟩;have hrd:∀ a v,Rd (cx G ρ w) ρ a v->Rd (cx G (ρ.set i .no) w) (ρ.set i .no) (a.Ht H i) v:=by
  intro a v h;have hSg:∀ g cap len z,ρ[i]? = some (.row g cap len z)->(cx G (ρ.set i .no) w).S g:=fun g cap len z h1=>by
   have hb:=hR.bnd _ _ g h1 rfl;refine ⟨hb.2.1,fun hl=>?_,hb.2.2⟩;obtain ⟨j,r',h2,h3⟩:=hl;by_cases hij:i=j
   ·subst hij; rw [adh hil] at h2; cases h2; cases h3
   rw [iE hij] at h2; exact hij (hR.inj _ _ _ _ g h1 h2 rfl h3)
  cases a with
  | own j=>
   simp only [AV.Ht];cases hb:Nat.beq i j
   ·have hij:i≠j:=by rintro rfl; simp at hb
    rcases h with ⟨g,cap,len,z,h,e⟩ | ⟨h,e⟩
    ·exact .inl ⟨g,cap,len,z,hne _ _ hij h,e⟩
    exact .inr ⟨hne _ _ hij h,e⟩
   have hij:=abk hb;subst hij;simp only [cond_true];have hv:(AV.own i).vw H = .fz s xs:=by simp [AV.vw,hi]
   rw [hv];refine kN (nL hR hle rfl h (fun g cap len z ⟨id,he,h1⟩=>?_) hv);rcases he with he | ⟨_,_,he⟩ <;> cases he;exact hSg g cap len z h1
  | sub j o k=>
   simp only [AV.Ht];cases hb:Nat.beq i j
   ·have hij:i≠j:=by rintro rfl; simp at hb
    rcases h with ⟨g,cap,len,z,h,e⟩ | ⟨h,e⟩
    ·exact .inl ⟨g,cap,len,z,hne _ _ hij h,e⟩
    exact .inr ⟨hne _ _ hij h,e⟩
   have hij:=abk hb;subst hij;simp only [cond_true];have hv:(AV.sub i o k).vw H = .fz s ((xs.drop o).take k):=by simp [AV.vw,hi]
   rw [hv];refine kN (nL hR hle rfl h (fun g cap len z ⟨id,he,h1⟩=>?_) hv);rcases he with he | ⟨_,_,he⟩ <;> cases he;exact hSg g cap len z h1
  | elp j k o=>
   simp only [AV.Ht];cases hb:Nat.beq i j
   ·have hij:i≠j:=by rintro rfl; simp at hb
    obtain ⟨g,cap,len,z,h,e⟩:=h;exact ⟨g,cap,len,z,hne _ _ hij h,e⟩
   exact Rd.one h
  | ptr j o=>exact hcap _ _ h
  | mq j=>
   obtain ⟨g,h1,e⟩:=h;exact ⟨g,hne _ _ (fun e=>hnb g (e ▸ h1)) h1,e⟩
  | fn f b cs=>
   obtain ⟨bs,us,h1,h2,e⟩:=h;exact ⟨bs,us,h1.imp fun _ _ h=>hcap _ _ h,h2.imp fun _ _ h=>hcap _ _ h,e⟩
  | fe s' x o=>
   obtain ⟨A,cells,h1,h2,h3,e⟩:=h;exact ⟨A,cells,(hle.S _ h1).1,h2,h3.carry hle,e⟩
  | np=>exact h
  | nf=>exact h
  | yl l=>exact h
  | xx k cs=>
   obtain ⟨us,h1,h2⟩:=h;exact ⟨us,h1.imp fun _ _ h=>hcap _ _ h,h2.le hle⟩
  | dead=>exact h
  | int n=>exact Pd.carry h hle
  | u8 b=>exact Pd.carry h hle
  | u64 n=>exact Pd.carry h hle
  | bool e=>exact Pd.carry h hle
  | str s=>exact Pd.carry h hle
  | em b=>exact Pd.carry h hle
  | li nw xs=>exact Pd.carry h hle
  | fz s xs=>exact Pd.carry h hle
 refine ⟨hrd,⟨cg (by simp [eL,hR.obj.length]) fun j o r ho hr=>?_,fun a b r r' g h1 h2 h3 h4=>?_,fun j r g h1 h2=>?_,hR.z,hR.b0,hR.tb.carry hle⟩,⟨hext,fun j r hj h=>hne j r (by rintro rfl; rw [hro] at hj; cases hj) h,fun j r hj h=>⟨hne j r (by rintro rfl; rw [hro2] at hj; cases hj) h,fun _ _=>rfl⟩,fun j g h=>hne j _ (fun e=>hnb g (e ▸ h)) h⟩,hle⟩
 ·by_cases hij:i=j
  ·subst hij;rw [adh (by rw [eL]; exact hiH)] at ho;rw [adh hil] at hr;cases ho; cases hr;rfl
  rw [List.getElem?_set_ne hij,lh] at ho;rw [iE hij] at hr;rw [adg] at ho;obtain ⟨o',ho',rfl⟩:=ho;obtain ⟨r',hr',hor⟩:=hR.at_ ho';rw [hr] at hr'; cases hr';exact hor.map hle hrd fun _ _=>rfl
 ·have key:∀ (a:Nat) (r:RE),(ρ.set i .no)[a]? = some r->r.g? = some g->ρ[a]? = some r:=fun a r h1 h2=>by
   by_cases hia:i=a
   ·subst hia; rw [adh hil] at h1; cases h1; cases h2
   rw [iE hia] at h1; exact h1
  exact hR.inj a b r r' g (key a r h1 h3) (key b r' h2 h4) h3 h4
 by_cases hij:i=j
 ·subst hij; rw [adh hil] at h1; cases h1; cases h2
 rw [iE hij] at h1; exact hR.bnd j r g h1 h2
theorem ZK {j:Nat} (hij:i≠j) {s:Sh} {xs:List (den s)} (h:getO H j = .row t s xs):getO ((ic (AV.Ht H i) H).set i .gone) j = .row t s xs:=by
 have:=bB h (by simp);unfold getO;rw [List.getD_eq_getElem?_getD,List.getElem?_set_ne hij,lh,this];rfl
theorem gZ {ro:Lv} {F:Fr}:∀ {l:List Nat} {fr:AFr} {H:AH} {ρ:List RE} {q:AFr × AH},iA ro l fr H=some q->Rep G ρ H w->FrR (cx G ρ w) ρ fr F ->
  ∃ ρ',Stp ro ρ w ρ' w/\(cx G ρ w).le (cx G ρ' w)/\Rep G ρ' q.2 w/\FrR (cx G ρ' w) ρ' q.1 F/\q.2.length=H.length /\
   (∀ (H0:AH) a v,(∀ i,(a = .own i\/∃ o k,a = .sub i o k)->i ∈ l/\∃ t s xs,getO H0 i = .row t s xs)->((Rd (cx G ρ w) ρ a v/\∀ i,(a = .own i\/∃ o k,a = .sub i o k)->getO H i=getO H0 i)\/Pd (cx G ρ w) (a.vw H0) v)->(∀ i,a ≠ .own i/\∀ o k,a ≠ .sub i o k)\/Pd (cx G ρ' w) (a.vw H0) v) /\
   (∀ i o,i ∉ l->H[i]? = some o->((∀ t cs,o ≠ .box t cs)/\∀ l,o ≠ .mapf l)->q.2[i]? = some o)/\(∀ i,i ∉ l->ρ'[i]? = ρ[i]?)
 | [],fr,H,ρ,q,h,hR,hf=>by
  cases h;refine ⟨ρ,Stp.refl _ _ _,Cx.le.refl _,hR,hf,rfl,fun H0 a v hall h=>?_,fun i o _ h _=>h,fun _ _=>rfl⟩;by_cases hown:∃ i,a = .own i\/∃ o k,a = .sub i o k
  ·obtain ⟨i,hi⟩:=hown;have:=(hall i hi).1;simp at this
  left;intro i;exact ⟨fun e=>hown ⟨i,.inl e⟩,fun o k e=>hown ⟨i,.inr ⟨o,k,e⟩⟩⟩
 | i :: l,fr,H,ρ,q,h,hR,hf=>by
  unfold iA at h;split at h
  ·rename_i t s xs hi;split at h
   ·rename_i hro;simp only [Bool.and_eq_true] at hro;obtain ⟨hrd,hR1,hst,hle⟩:=aez hR hi (ro:=ro) hro.1 hro.2;obtain ⟨ρ',h1,h2,h3,h4,h5,h6,h7,h8⟩:=gZ h hR1 (rH hrd hf);refine ⟨ρ',hst.trans h1,hle.trans h2,h3,h4,by rw [h5]; simp [eL],fun H0 a v hall hd=>?_,fun j o hj ho hb=>?_,fun j hj=>?_⟩
    ·-- the element's cell
     by_cases hown:∃ j,a = .own j\/∃ o k,a = .sub j o k
     ·obtain ⟨j,hj⟩:=hown;right;have hpd:Pd (cx G (ρ.set i .no) w) (a.vw H0) v\/(Rd (cx G (ρ.set i .no) w) (ρ.set i .no) a v/\i≠j/\getO H j=getO H0 j):=by
       rcases hd with ⟨hd,hHH⟩ | hd
       ·have e:=hHH j hj;by_cases hij:i=j
        ·subst hij;left;have h9:=hrd a v hd;have hv:a.vw H=a.vw H0:=by rcases hj with rfl | ⟨o,k,rfl⟩ <;> simp [AV.vw,e]
         have hz:a.Ht H i=a.vw H:=by rcases hj with rfl | ⟨o,k,rfl⟩ <;> simp [AV.Ht]
         rw [hz,hv] at h9;have hp:(a.vw H0).plain=true:=by
          rw [<- hv];rcases hj with rfl | ⟨o,k,rfl⟩ <;> simp [AV.vw,hi,AV.plain]
         exact (gS hp).1 h9
        right;have h9:=hrd a v hd;have hz:a.Ht H i=a:=by
         have hb:Nat.beq i j=false:=by rw [<- Bool.not_eq_true,Nat.beq_eq]; exact hij
         rcases hj with rfl | ⟨o,k,rfl⟩ <;> simp [AV.Ht,hb]
        rw [hz] at h9;exact ⟨h9,hij,e⟩
       exact .inl (hd.carry hle)
      rcases hpd with hpd | ⟨hpd,hij,e⟩
      ·-- done; carry on
       exact hpd.carry h2
      obtain ⟨hm,tt,ss,xx,hrow⟩:=hall j hj;have hml:j ∈ l:=by
       rcases ac4.1 hm with e2 | hm
       ·exact absurd e2.symm hij
       exact hm
      have hrow':getO H j = .row tt ss xx:=e.trans hrow;refine (h6 H0 a v (fun j' hj'=>?_) (.inl ⟨hpd,fun j' hj'=>?_⟩)).resolve_left fun hh=>?_
      ·have:j' = j:=by rcases hj with rfl | ⟨o,k,rfl⟩ <;> rcases hj' with e3 | ⟨_,_,e3⟩ <;> cases e3 <;> rfl
       subst this; exact ⟨hml,tt,ss,xx,hrow⟩
      ·have:j' = j:=by rcases hj with rfl | ⟨o,k,rfl⟩ <;> rcases hj' with e3 | ⟨_,_,e3⟩ <;> cases e3 <;> rfl
       subst this;rw [ZK hij hrow',hrow]
      rcases hj with rfl | ⟨o,k,rfl⟩
      ·exact (hh j).1 rfl
      exact (hh j).2 _ _ rfl
     left;intro i;exact ⟨fun e=>hown ⟨i,.inl e⟩,fun o k e=>hown ⟨i,.inr ⟨o,k,e⟩⟩⟩
    ·simp only [ac4,not_or] at hj;refine h7 j o hj.2 ?_ hb;rw [List.getElem?_set_ne (Ne.symm hj.1),lh,ho];cases o with
     | box t cs=>exact absurd rfl (hb.1 t cs)
     | mapf l=>exact absurd rfl (hb.2 l)
     | _=>rfl
    simp only [ac4,not_or] at hj;rw [h8 j hj.2,iE (Ne.symm hj.1)]
   cases h
  rename_i hnr;obtain ⟨ρ',h1,h2,h3,h4,h5,h6,h7,h8⟩:=gZ h hR hf;refine ⟨ρ',h1,h2,h3,h4,h5,fun H0 a v hall hd=>?_,fun j o hj=>h7 j o fun hm=>hj (by simp [hm]),fun j hj=>h8 j fun hm=>hj (by simp [hm])⟩;by_cases hown:∃ j,a = .own j\/∃ o k,a = .sub j o k
  ·obtain ⟨j,hj⟩:=hown;obtain ⟨hm,tt,ss,xx,hrow⟩:=hall j hj;rcases hd with ⟨hd,hHH⟩ | hd
   ·grind
   exact .inr (hd.carry h2)
  left;intro i;exact ⟨fun e=>hown ⟨i,.inl e⟩,fun o k e=>hown ⟨i,.inr ⟨o,k,e⟩⟩⟩
theorem oL {fr:AFr} {F:Fr} {l:List Nat} {q:AFr × AH} (h:iA ro l fr H=some q) (hR:Rep G ρ H w) (hf:FrR (cx G ρ w) ρ fr F) :
  ∃ ρ',Stp ro ρ w ρ' w/\(cx G ρ w).le (cx G ρ' w)/\Rep G ρ' q.2 w/\FrR (cx G ρ' w) ρ' q.1 F/\q.2.length=H.length /\
   (∀ (asx:List AV) (vs:List Value),(∀ i ∈ eC asx,i ∈ l)->All2 (Rd (cx G ρ w) ρ) asx vs->All2 (Qd (cx G ρ' w)) (ER H asx) vs)/\(∀ i o,i ∉ l->H[i]? = some o->((∀ t cs,o ≠ .box t cs)/\∀ l,o ≠ .mapf l)->q.2[i]? = some o)/\(∀ i,i ∉ l->ρ'[i]? = ρ[i]?):=by
 obtain ⟨ρ',h1,h2,h3,h4,h5,h6,h7,h8⟩:=gZ h hR hf;refine ⟨ρ',h1,h2,h3,h4,h5,fun asx vs hin hv=>?_,h7,h8⟩;induction hv with
 | nil=>exact .nil
 | @cons a v asx vs hav _ ih=>
  refine .cons ?_ (ih fun i hi=>hin i (by cases a <;> simp [eC,hi]));intro hp;by_cases hown:∃ i,a = .own i\/∃ o k,a = .sub i o k
  ·obtain ⟨i,hi⟩:=hown;have hrow:∃ t s xs,getO H i = .row t s xs:=by
    cases hg:getO H i with
    | row t s xs=>exact ⟨t,s,xs,rfl⟩
    | _=>rcases hi with rfl | ⟨o,k,rfl⟩ <;> simp [AV.vw,hg,AV.plain] at hp
   refine (h6 H a v (fun j hj=>?_) (.inl ⟨hav,fun _ _=>rfl⟩)).resolve_left fun hh=>?_
   ·have:j=i:=by rcases hi with rfl | ⟨o,k,rfl⟩ <;> rcases hj with e3 | ⟨_,_,e3⟩ <;> cases e3 <;> rfl
    subst this;refine ⟨hin j ?_,hrow⟩;rcases hi with rfl | ⟨o,k,rfl⟩ <;> simp [eC]
   grind
  have e:a.vw H=a:=by
   cases a <;> first | rfl | exact absurd ⟨_,.inl rfl⟩ hown | exact absurd ⟨_,.inr ⟨_,_,rfl⟩⟩ hown
  rw [e] at hp ⊢;exact ((gS hp).1 hav).carry h2
end
def ez (P:Program) (n:Nat) (F:Fr) (w:World) (op:Op) (ty:TypeId) (φ:Value->World->Prop):Prop:=
 Yields P n F w op ty φ\/(isSt op=true/\∃ w',gG P n F w op ty w' /\ φ undef w')
def eB (G:Gl) (ro:Lv) (ρ:List RE) (w:World) (r:SR) (F:Fr) (v:Value) (w':World):Prop:=
 ∃ ρ',Stp ro ρ w ρ' w' /\ Rep G ρ' r.H w' /\ FrR (cx G ρ' w') ρ' r.fr F/\Rt (cx G ρ' w') ρ' r.v v/\∀ p ∈ r.fc,p
section
variable {P:Program} {T:List (Nat × TI)} {G:Gl} {O:bD} {n:Nat} {F:Fr} {w:World} {x y:Operand} {ty t:TypeId} {ρ:List RE} {H:AH} {fr:AFr} {ro:Lv}
theorem R.box {v:Value} {cs:List Value} (hx:ev F x=some v) (hcs:v.cells=cs.toArray):aD P n F w (.box t x) ty (.pointer (some ⟨w.heap.size,0,none⟩)) (w.alloc (.cells cs.toArray t)):=
 fun a _ _ _ _ ha=>by simp [execOp,ha.ev hx,Instr.box,newVar,newRow,hcs]
theorem R.alloc {cs:List Value} (hz:((P.info? t).bind (·.zero)).map Value.cells=some cs.toArray):aD P n F w (.alloc t) ty (.pointer (some ⟨w.heap.size,0,none⟩)) (w.alloc (.cells cs.toArray t)):=fun a _ _ _ _ _=>by
 cases hq:P.info? t with
 | none=>simp [hq] at hz
 | some i=>
  cases hz':i.zero with
  | none=>simp [hq,hz'] at hz
  | some z=>
   have:z.cells=cs.toArray:=by simpa [hq,hz'] using hz
   simp [execOp,Instr.alloc,newVar,newRow,zeroValue,typeInfo,hq,hz',this]
variable {cs:List AV} {us:List Value}
theorem Sx {c:Cx} {g:Nat} (hh:c.w.heap[g]? = some (.cells us.toArray t (0,0))) (hcs:All2 (Rd c ρ) cs us):OR c ρ (Iz T t cs) (.blk g):=by
 have hb:OR c ρ (.box t cs) (.blk g):=⟨g,us,rfl,hh,hcs⟩;unfold Iz;split
 ·split
  ·split
   ·split
    ·rename_i hck;simp only [Bool.and_eq_true] at hck;exact ⟨g,us,rfl,hh,kv (by assumption) hcs,abk hck.1,abk hck.2⟩
    exact hb
   exact hb
  exact hb
 exact hb
theorem uG (hR:Rep G ρ H w) (hf:FrR (cx G ρ w) ρ fr F) (hcs:All2 (Rd (cx G ρ w) ρ) cs us):eB G ro ρ w ⟨one (.ptr H.length 0),fr,H++[Iz T t cs],[],[]⟩ F (.pointer (some ⟨w.heap.size,0,none⟩)) (w.alloc (.cells us.toArray t)):=by
 have hk:=Kp.alloc w (.cells us.toArray t);have hext:Ext ρ w (ρ++[.blk w.heap.size]) (w.alloc (.cells us.toArray t)):=Ext.app hk fun g hg=>by cases hg; exact ac5 _
 have hle:=hext.le hR.lo;refine ⟨ρ++[.blk w.heap.size],Stp.app hR hk (fun g hg=>by cases hg; exact ac5 _),hR.app hk (fun g hg=>by cases hg; exact ⟨ac5 _,by simp⟩) (Sx (agi w _) (hcs.imp fun _ _ h=>h.carry hle (fR _ _))),hf.carry hle (fR _ _),⟨w.heap.size,by rw [hR.obj.length]; simp,rfl⟩,by simp⟩
theorem R.store {g o:Nat} {tb:TypeId} {cur us:List Value} {v:Value} (hx:ev F x=some (.pointer (some ⟨g,o,none⟩))) (hy:ev F y=some v) (hg:w.heap[g]? = some (.cells (List.toArray cur) tb (0,0))) (hv:v.cells=us.toArray) (h1:∀ u ∈ us,u.oneCell' = true) (hi:(P.info? t).map (·.size)=some us.length) (hl:o+us.length<=cur.length) :
  gG P n F w (.store t x y) ty (w.setRow g (cur.take o++us++cur.drop (o+us.length)).toArray):=fun a _ _ _ _ ha=>by
 have h2:=run_storeCells_at (P:=P) g o tb us 0 cur.toArray w hg (by simpa using hl) h1;cases hq:P.info? t with
 | none=>simp [hq] at hi
 | some i=>
  have hs:i.size=us.length:=by simpa [hq] using hi
  simp [execOp,ha.ev hx,ha.ev hy,Instr.storeAt,Instr.sureAddr,storeVar,sizeOf,typeInfo,hq,hs,hv] at h2 ⊢;simp [h2]
theorem AB (hT:aY P G.shp T) (hR:Rep G ρ H w) (hf:FrR (cx G ρ w) ρ fr F) {a:AV} {b:TV1} {va vb:Value} {r:SR} {ti:TI} (ht:aQ T t=some ti) (hsz:Nat.beq ti.size b.cells.length=true) (ha:Rd (cx G ρ w) ρ a va) (hb:cO (cx G ρ w) ρ b vb) (hx:ev F x=some va) (hy:ev F y=some vb) (h:BN ro fr H a b=some r) (hob:∀ p ∈ r.ob,p) :
  ∃ w',gG P n F w (.store t x y) ty w' /\ eB G ro ρ w r F undef w':=by
 have hsz:=abk hsz;obtain ⟨us,hus,hcs⟩:=cO.cells hb;have hul:=hcs.length;have h1:∀ u ∈ us,u.oneCell' = true:=fun u hu=>by
  obtain ⟨i,hi⟩:=List.getElem?_of_mem hu;obtain ⟨a',_,h⟩:=hcs.get i u hi;exact Rd.one h
 have hinfo:(P.info? t).map (·.size)=some us.length:=by rw [(hT _ _ ht).1.1,hsz,hul]
 unfold BN at h;split at h
 ·-- a box
  rename_i id o;split at h
  ·rename_i tb cs hH;split at h
   ·rename_i hck;cases h;simp only [Bool.and_eq_true] at hck;have hro:=hck.1;have hlen:=adl hck.2;have hHs:=bB hH (by simp);obtain ⟨r,hr,g,vs,rfl,h2,h3⟩:=hR.at_ hHs;obtain ⟨g',hg',rfl⟩:=ha;rw [hr] at hg'; cases hg';have hvl:=h3.length;refine ⟨_,R.store hx hy h2 hus h1 hinfo (by omega),ρ,?_⟩;have hkp:=Kp.setRow w g (vs.take o++us++vs.drop (o+us.length)).toArray;have hhp:(w.setRow g (vs.take o++us++vs.drop (o+us.length)).toArray).heap[g]? = some (.cells (vs.take o++us++vs.drop (o+us.length)).toArray tb (0,0)):=ad4 w g _ _ tb _ h2;have hext:Ext ρ w ρ (w.setRow g (vs.take o++us++vs.drop (o+us.length)).toArray):=⟨hkp.os,hkp.tape,hkp.output,hkp.size,fun b hb hl=>⟨hl,hkp.block b hb (by
     simp only [ac2];rintro rfl;exact hl ⟨id,_,hr,rfl⟩)⟩⟩
    have hle:=hext.le hR.lo;have hput:=hR.put hHs hr rfl hkp (o':=.box tb (over cs o b.cells)) ⟨g,_,rfl,hhp,by
     unfold over;rw [hul];exact (((h3.take o).append hcs).append (h3.drop _)).imp fun _ _ h=>h.carry hle (jP.refl _)⟩
    refine ⟨⟨hput.2,fun _ _ _ h=>h,fun i r' hi hr'=>⟨hr',fun g' hg'=>hkp.block g' (hR.bnd i r' g' hr' hg').2.1 ?_⟩,fun _ _ h=>h⟩,hput.1,hf.carry hle (jP.refl _),trivial,by simp⟩;simp only [ac2];rintro rfl;have:=hR.inj i id _ _ g' hr' hr hg' rfl;subst this; rw [hro] at hi; cases hi
   cases h
  ·-- an array
   rename_i ta s m xs hH;split at h
   ·rename_i a1 hck hcell;split at h
    ·rename_i x' hpl hof;cases h;simp only [Bool.and_eq_true] at hck;have hro:=hck.1;have hs1:=abk hck.2;have ho:=hob _ (ab3 _);have hHs:=bB hH (by simp);obtain ⟨r,hr,g,vs,rfl,h2,h3,h4,h5⟩:=hR.at_ hHs;obtain ⟨g',hg',rfl⟩:=ha;rw [hr] at hg'; cases hg';rw [hcell] at hcs;cases hcs with | @cons _ u _ _ hu1 hu2=>
     cases hu2;have hvl:vs.length=m:=by rw [<- h3.length,bR,h4,hs1,aht]
     have hlu:[u].length=1:=rfl;have hkp:=Kp.setRow w g (vs.take o++[u]++vs.drop (o+[u].length)).toArray;have hhp:(w.setRow g (vs.take o++[u]++vs.drop (o+[u].length)).toArray).heap[g]? = some (.cells (vs.take o++[u]++vs.drop (o+[u].length)).toArray ta (0,0)):=ad4 w g _ _ ta _ h2;have hext:Ext ρ w ρ (w.setRow g (vs.take o++[u]++vs.drop (o+[u].length)).toArray):=⟨hkp.os,hkp.tape,hkp.output,hkp.size,fun b hb hl=>⟨hl,hkp.block b hb (by
      simp only [ac2];rintro rfl;exact hl ⟨id,_,hr,rfl⟩)⟩⟩
     have hle:=hext.le hR.lo;have hxo:xs[o]? = some (xs.getD o (ao s)):=by
      rw [List.getD_eq_getElem?_getD,List.getElem?_eq_getElem (by omega)]; rfl
     have hsp:Pds (cx G ρ w) (cellsOf s x') [u]:=aG hof (.cons (fun hp=>(gS hp).1 hu1) .nil);have hnew:Pds (cx G ρ w) ((xs.set o x').flatMap (cellsOf s)) (vs.take o++[u]++vs.drop (o+[u].length)):=by
      rw [zP hxo];have f1:=bk h3 o;have f2:=bL h3 (o+1);rw [hs1,aht] at f1 f2;exact (f1.append hsp).append f2
     have hput:=hR.put hHs hr rfl hkp (o':=.arr ta s m (xs.set o x')) ⟨g,_,rfl,hhp,hnew.carry hle,by rw [adn]; exact h4,hs1⟩;refine ⟨_,R.store hx hy h2 hus h1 hinfo (by rw [hlu]; omega),ρ,⟨hput.2,fun _ _ _ h=>h,fun i r' hi hr'=>⟨hr',fun g' hg'=>hkp.block g' (hR.bnd i r' g' hr' hg').2.1 ?_⟩,fun _ _ h=>h⟩,hput.1,hf.carry hle (jP.refl _),trivial,by simp⟩;simp only [ac2];rintro rfl;have:=hR.inj i id _ _ g' hr' hr hg' rfl;subst this; rw [hro] at hi; cases hi
    cases h
   ·-- all of it
    rename_i hck hne;split at h
    ·rename_i l ho hl;split at h
     ·rename_i hln;cases h;simp only [Bool.and_eq_true] at hck;have hro:=hck.1;have hs1:=abk hck.2;have ho:=abk ho;subst ho;have hln:=abk hln;have hHs:=bB hH (by simp);obtain ⟨r,hr,g,vs,rfl,h2,h3,h4,h5⟩:=hR.at_ hHs;obtain ⟨g',hg',rfl⟩:=ha;rw [hr] at hg'; cases hg';have hpd:=kv hl hcs;have hul2:us.length=m:=by rw [<- hpd.length,bR,hln,hs1,aht]
      have hvl:vs.length=m:=by rw [<- h3.length,bR,h4,hs1,aht]
      have he:vs.take 0++us++vs.drop (0+us.length)=us:=by
       rw [ahG,ahp,aeu (by omega),ade]
      have hst:=R.store (P:=P) (n:=n) (F:=F) (w:=w) (t:=t) (ty:=ty) hx hy h2 hus h1 hinfo (by omega);rw [he] at hst;have hkp:=Kp.setRow w g us.toArray;have hhp:(w.setRow g us.toArray).heap[g]? = some (.cells us.toArray ta (0,0)):=ad4 w g _ _ ta _ h2;have hext:Ext ρ w ρ (w.setRow g us.toArray):=⟨hkp.os,hkp.tape,hkp.output,hkp.size,fun b hb hl=>⟨hl,hkp.block b hb (by
       simp only [ac2];rintro rfl;exact hl ⟨id,_,hr,rfl⟩)⟩⟩
      have hle:=hext.le hR.lo;have hput:=hR.put hHs hr rfl hkp (o':=.arr ta s m l) ⟨g,_,rfl,hhp,hpd.carry hle,hln,hs1⟩;refine ⟨_,hst,ρ,⟨hput.2,fun _ _ _ h=>h,fun i r' hi hr'=>⟨hr',fun g' hg'=>hkp.block g' (hR.bnd i r' g' hr' hg').2.1 ?_⟩,fun _ _ h=>h⟩,hput.1,hf.carry hle (jP.refl _),trivial,by simp⟩;simp only [ac2];rintro rfl;have:=hR.inj i id _ _ g' hr' hr hg' rfl;subst this; rw [hro] at hi; cases hi
     cases h
    cases h
   cases h
  cases h
 ·-- an element of a row
  rename_i id i o;split at h
  ·rename_i tb s xs hH;split at h
   ·rename_i x' q hck hof hfz;cases h;simp only [Bool.and_eq_true,adu,<- Bool.not_eq_true,bj] at hck;obtain ⟨⟨hro,hlen⟩,hnm⟩:=hck;have hlen:=adl hlen;obtain ⟨ρ1,k1,k2,k3,k4,k5,k6,k7,k8⟩:=oL hfz hR hf;obtain ⟨g,cap,len,z,h2,h3,rfl⟩:=ha;have hHs:=bB hH (by simp);rcases bl hR hH with ⟨h0,_⟩ | ⟨g',cap',cells,sp,h4,h5,h6,h7,h8,h9⟩
    ·rw [h0] at h2; cases h2
    rw [h4] at h2; cases h2;have hfacts:=dj hR hH;have hxi:xs[i]? = some (xs.getD i (ao s)):=mK h3;have hcl:cells.length=xs.length*s.size:=by rw [<- h6.length,bR]
    have hmul:(i+1)*s.size<=xs.length*s.size:=adk _ h3;rw [ahe] at hmul;have hρ1:ρ1[id]? = some (.row g cap xs.length s.size):=by rw [k8 id hnm]; exact h4
    have hH1:q.2[id]? = some (.row tb s xs):=k7 id _ hnm hHs (by simp)
    -- the element's new cells
    have hel:All2 (Rd (cx G ρ w) ρ) (cellsOf s (xs.getD i (ao s))) ((cells.drop (i*s.size)).take s.size):=by
     have:=(h6.drop (i*s.size)).take s.size;rw [nn hxi] at this;exact fU this
    have hell:=hel.length;rw [cF] at hell;have hnew:All2 (Qd (cx G ρ1 w)) (over (cellsOf s (xs.getD i (ao s))) o (ER H b.cells)) (((cells.drop (i*s.size)).take s.size).take o++us++((cells.drop (i*s.size)).take s.size).drop (o+us.length)):=by
     have hvl:(ER H b.cells).length=us.length:=by
      rw [<- hul];generalize b.cells=l;induction l with
      | nil=>rfl
      | cons a l ih=>simp [ER,ih]
     unfold over;rw [hvl];have hq:All2 (Qd (cx G ρ1 w)) (cellsOf s (xs.getD i (ao s))) ((cells.drop (i*s.size)).take s.size):=hel.imp fun a v h hp=>((gS hp).1 h).carry k2;exact ((hq.take o).append (k6 _ _ (fun j hj=>hj) hcs)).append (hq.drop _)
    have hsp:=aG hof hnew;have hcur:cells.take (i*s.size+o)++us++cells.drop (i*s.size+o+us.length)=cells.take (i*s.size)++(((cells.drop (i*s.size)).take s.size).take o++us++((cells.drop (i*s.size)).take s.size).drop (o+us.length))++cells.drop ((i+1)*s.size):=by
     have e1:cells.take (i*s.size+o)=cells.take (i*s.size)++((cells.drop (i*s.size)).take s.size).take o:=by
      rw [ahH,adA (by omega),List.take_add]
     have e2:cells.drop (i*s.size+o+us.length)=((cells.drop (i*s.size)).take s.size).drop (o+us.length)++cells.drop ((i+1)*s.size):=by
      rw [List.drop_take,agl,ahe,Nat.one_mul];have:i*s.size+(o+us.length)=i*s.size+o+us.length:=by omega
      rw [this];have e3:cells.drop (i*s.size+s.size)=(cells.drop (i*s.size+o+us.length)).drop (s.size - (o+us.length)):=by
       rw [agl]; congr 1; omega
      rw [e3,List.take_append_drop]
     rw [e1,e2];simp only [List.append_assoc]
    have hkp:=Kp.setRow w g ((cells++sp).take (i*s.size+o)++us++(cells++sp).drop (i*s.size+o+us.length)).toArray;have htk:(cells++sp).take (i*s.size+o)++us++(cells++sp).drop (i*s.size+o+us.length)=(cells.take (i*s.size+o)++us++cells.drop (i*s.size+o+us.length))++sp:=by
     rw [ado (by omega),List.drop_append_of_le_length (by omega)];simp only [List.append_assoc]
    refine ⟨_,R.store hx hy h5 hus h1 hinfo (by rw [List.length_append]; omega),ρ1,?_⟩;have hhp:(w.setRow g ((cells++sp).take (i*s.size+o)++us++(cells++sp).drop (i*s.size+o+us.length)).toArray).heap[g]? = some (.cells ((cells++sp).take (i*s.size+o)++us++(cells++sp).drop (i*s.size+o+us.length)).toArray tb (0,0)):=ad4 w g _ _ tb _ h5;generalize hw':w.setRow g ((cells++sp).take (i*s.size+o)++us++(cells++sp).drop (i*s.size+o+us.length)).toArray=w' at hkp hhp;rw [htk,hcur] at hhp;have hext:Ext ρ1 w ρ1 w':=⟨hkp.os,hkp.tape,hkp.output,hkp.size,fun b hb hl=>⟨hl,hkp.block b hb (by
     simp only [ac2];rintro rfl;exact hl ⟨id,_,hρ1,rfl⟩)⟩⟩
    have hle:=hext.le k3.lo;have hput:=k3.put hH1 hρ1 rfl hkp (o':=.row tb s (xs.set i x')) ⟨hfacts.1,by rw [adn]; exact hfacts.2,.inr ⟨g,cap,_,sp,by rw [adn],hhp,by
     rw [zP hxi];have f1:Pds (cx G ρ w) ((xs.take i).flatMap (cellsOf s)) (cells.take (i*s.size)):=bk h6 i;have f2:Pds (cx G ρ w) ((xs.drop (i+1)).flatMap (cellsOf s)) (cells.drop ((i+1)*s.size)):=bL h6 (i+1);exact (((f1.carry k2).append hsp).append (f2.carry k2)).carry hle,by
     have e4:((cells.drop (i*s.size)).take s.size).length=s.size:=by rw [List.length_take,List.length_drop]; omega
     rw [ahe,Nat.one_mul];simp only [List.length_append,List.length_take,List.length_drop] at e4 h7 ⊢;omega,by rw [adn]; exact h8,h9⟩⟩
    refine ⟨k1.trans ⟨hput.2,fun _ _ _ h=>h,fun j r' hj hr'=>⟨hr',fun g' hg'=>hkp.block g' (k3.bnd j r' g' hr' hg').2.1 ?_⟩,fun _ _ h=>h⟩,hput.1,k4.carry hle (jP.refl _),trivial,by simp⟩;simp only [ac2];rintro rfl;have:=k3.inj j id _ _ g' hr' hρ1 hg' rfl;subst this; rw [hro] at hj; cases hj
   cases h
  cases h
 cases h
end
section
variable {P:Program} {T:List (Nat × TI)} {G:Gl} {O:bD} {n:Nat} {F:Fr} {w:World} {x y:Operand} {ty t:TypeId} {ρ:List RE} {H:AH} {fr:AFr} {ro:Lv}
theorem oi {c c1:Cx} {s:Sh}:∀ {l:List (Nat × TV1)} {pv:List (Nat × Value)} {k:Nat} {xs:List (den s)},qB s H l k=some xs->All2 (fun p q=>p.1=q.1/\cO c ρ p.2 q.2) l pv->(∀ p ∈ l,∀ us,All2 (Rd c ρ) p.2.cells us->All2 (Qd c1) (ER H p.2.cells) us) ->
  ∃ vss:List (List Value),pv.map (fun p=>(p.1,p.2.cells.toList))=(List.range' k vss.length).zip vss/\(∀ vs ∈ vss,vs.length=s.size)/\vss.length=xs.length/\Pds c1 (xs.flatMap (cellsOf s)) vss.flatten
 | [],_,k,xs,h,hp,_=>by
  cases h; cases hp;exact ⟨[],rfl,by simp,rfl,.nil⟩
 | (i,v) :: r,_,k,xs,h,hp,hq=>by
  cases hp with
  | @cons _ q _ qs h1 h2=>
  obtain ⟨i',u⟩:=q;obtain ⟨e,hv⟩:=h1;simp only at e; subst e;simp only [qB] at h;split at h
  ·rename_i x l hb ho hl;cases h;have:=abk hb;subst this;obtain ⟨us,hus,hcells⟩:=cO.cells hv;have hsp:=aG ho (hq (i,v) (by simp) us hcells);obtain ⟨vss,h3,h4,h5,h6⟩:=oi hl h2 fun p hp=>hq p (by simp [hp]);refine ⟨us :: vss,?_,?_,by simp [h5],?_⟩
   ·simp only [ae9,List.length_cons,ahv,List.zip_cons_cons,h3,hus]
   ·intro vs hvs;rcases ac4.1 hvs with rfl | hvs
    ·rw [<- hsp.length,cF]
    grind
   rw [List.flatMap_cons,List.flatten_cons];exact hsp.append h6
  cases h
theorem rC:∀ {l:List (Nat × TV1)} {p:Nat × TV1} {i:Nat},p ∈ l->i ∈ eC p.2.cells->i ∈ BD l
 | (j,v) :: r,p,i,h,hi=>by
  simp only [BD,ac1];rcases ac4.1 h with rfl | h
  ·grind
  exact .inr (rC h hi)
variable {e:TypeId} {w':World}
theorem pP (hR:Rep G ρ H w) (hf:FrR (cx G ρ w) ρ fr F) (hk:Kp [] w w') {s:Sh} {xs:List (den s)} {cells sp:List Value} {cap:Nat} (hh:w'.heap[w.heap.size]? = some (.cells (List.toArray (cells++sp)) e (0,0))) (hs:G.shp e=some s) (hb:xs.length*s.bytes<=140737488355328) (hp:Pds (cx G ρ w) (xs.flatMap (cellsOf s)) cells) (hc:(cells++sp).length=cap*s.size) (hl:xs.length<=cap) (hm:cap<=maxLen) :
  ∃ ρ',Stp ro ρ w ρ' w' /\ Rep G ρ' (H++[.row e s xs]) w' /\ FrR (cx G ρ' w') ρ' fr F/\Rd (cx G ρ' w') ρ' (.own H.length) (.slice (some ⟨w.heap.size,0,none⟩) xs.length cap):=by
 have hlt:w.heap.size<w'.heap.size:=(afC.1 hh).1;have hext:Ext ρ w (ρ++[.row w.heap.size cap xs.length s.size]) w':=Ext.app hk fun g hg=>by cases hg; exact ac5 _
 have hle:=hext.le hR.lo;refine ⟨ρ++[.row w.heap.size cap xs.length s.size],Stp.app hR hk (fun g hg=>by cases hg; exact ac5 _),hR.app hk (fun g hg=>by cases hg; exact ⟨ac5 _,hlt⟩) ⟨hs,hb,.inr ⟨w.heap.size,cap,cells,sp,rfl,hh,hp.carry hle,hc,hl,hm⟩⟩,hf.carry hle (fR _ _),.inl ⟨w.heap.size,cap,xs.length,s.size,by rw [hR.obj.length]; simp,rfl⟩⟩
theorem NS (hR:Rep G ρ H w) (hf:FrR (cx G ρ w) ρ fr F) (hk:Kp [] w w') {s:Sh} (hs:G.shp e=some s) {xs:List (den s)} (hx:xs=[]) (a:Option Addr) :
  ∃ ρ',Stp ro ρ w ρ' w' /\ Rep G ρ' (H++[.row e s xs]) w' /\ FrR (cx G ρ' w') ρ' fr F/\Rd (cx G ρ' w') ρ' (.own H.length) (.slice a 0 0):=by
 subst hx;have hext:Ext ρ w (ρ++[.emp]) w':=Ext.app hk fun g hg=>by cases hg
 have hle:=hext.le hR.lo;exact ⟨ρ++[.emp],Stp.app hR hk (fun g hg=>by cases hg),hR.app hk (fun g hg=>by cases hg) ⟨hs,by simp,.inl ⟨rfl,rfl⟩⟩,hf.carry hle (fR _ _),.inr ⟨by rw [hR.obj.length]; simp,a,rfl⟩⟩
variable {b:Nat} {z:List Value}
theorem Du {s:Nat} (h:(P.info? e).map (fun i=>(i.zero.map Value.cells,i.size,i.bytes))=some (some z.toArray,s,b)):((P.info? e).bind (·.zero)).map Value.cells=some z.toArray:=by
 cases hq:P.info? e with
 | none=>simp [hq] at h
 | some i=>simp [hq] at h ⊢; exact h.1
theorem xy {s:Nat} (ht:P.underlying t=some (.slice e)) (hi':(P.info? e).map (fun i=>(i.zero.map Value.cells,i.size,i.bytes))=some (some z.toArray,s,b)) (hz:z.length=s) (hs0:0<s)
  {v:Value} {m k cy:Nat} {olds cys:List Value} {A:Option Addr} {lo:Nat} (hlo:lo<=w.heap.size) (hrow:(m=0/\olds=[]/\∃ a,v = .slice a 0 0)\/w.ownsRow lo e s v m olds) (hfl:cys.length=k*s) (hones:∀ u ∈ cys,u.oneCell' = true) (hcells:k=0\/∃ ad,A=some ad/\CellsAt w ad cys)
  (hlen:(m+k)*b<=140737488355328) (h63:m+k<=9223372036854775807) :
  ∃ v' w',(Builtin.append_ #[t,t] ty #[v,.slice A k cy]).run P w = .ok v' w' /\ ((m+k=0/\∃ a,v' = .slice a 0 0)\/w'.ownsRow lo e s v' (m+k) (olds++cys))/\Kp (ob v) w w' /\ (∀ g ∈ ob v',g ∈ ob v\/(g=w.heap.size/\w.heap.size<w'.heap.size)):=by
 obtain ⟨i,zv,hq,hzv,hzc,hsz,hby_⟩:=pO hi';have hzs:zv.cells.size=s:=by rw [hzc]; simpa using hz
 have hA0:A=none->k=0:=by
  intro hA;rcases hcells with h | ⟨ad',h,hc⟩
  ·exact h
  rw [hA] at h; cases h
 have hcl:∀ ad,A=some ad->∀ j u,cys[j]? = some u->w.cell? (ad.add j)=some u:=by
  intro ad hA j u hu;rcases hcells with h | ⟨ad',h,hc⟩
  ·subst h;have:cys=[]:=acr (by omega);subst this; simp at hu
  rw [hA] at h; cases h; exact hc j u hu
 have runOwn:∀ (v:Value) (n:Nat) (olds:List Value),w.ownsRow lo e s v n olds->n+k<=9223372036854775807->(n+k)*b<=140737488355328 ->
   ∃ v' w',(Builtin.append_ #[t,t] ty #[v,.slice A k cy]).run P w = .ok v' w' /\ w'.ownsRow lo e s v' (n+k) (olds++cys)/\w.grownBy w' v.ownBlock /\
    (v'.ownBlock=v.ownBlock\/v'.ownBlock=some w.heap.size)/\(v'.ownBlock=some w.heap.size->w.heap.size<w'.heap.size):=by
  intro v n olds hown h63 hlen;rcases A with _ | ad
  ·have hy0:=hA0 rfl;subst hy0;have hc0:cys=[]:=acr (by omega);subst hc0;refine ⟨v,w,?_,by simpa using hown,⟨rfl,rfl,rfl,ac5 _,fun _ _ _=>rfl⟩,.inl rfl,fun h=>?_⟩
   ·rcases hown.2 with ⟨rfl,h0⟩ | ⟨g,cap,cur,rfl,_,_,hnc,_⟩
    ·simp [Builtin.append_,run_underlying ht,sizeOf,typeInfo,hq,Builtin.lenOf,Builtin.firstCells]
    simp [Builtin.append_,run_underlying ht,sizeOf,typeInfo,hq,Builtin.lenOf,Builtin.firstCells,hnc,storeCells]
   exact absurd (hown.lt _ h).2 aK
  obtain ⟨v',w',hrun,h2,h3,_,h5⟩:=run_append_own_at (P:=P) w lo t ty e i zv s b ht hq hzv hsz hby_ hzs (by omega) v n olds hown ad k cy cys hfl (hcl ad rfl) hones (by simpa [maxLen] using h63) hlen hlo;exact ⟨v',w',hrun,h2,h3,h5,fun h=>(h2.lt _ h).2⟩
 by_cases hcap:∃ a,v = .slice a 0 0
 ·obtain ⟨a0,rfl⟩:=hcap;have hm0:m=0/\olds=[]:=by
   rcases hrow with ⟨h1,h2,_⟩ | h1
   ·exact ⟨h1,h2⟩
   have hm:m=0:=by
    rcases h1.2 with ⟨_,h0⟩ | ⟨g,cap,cur,hv,_,_,hn,_⟩
    ·exact h0
    injection hv with _ e1 _; exact e1.symm
   refine ⟨hm,acr ?_⟩;rw [h1.1,hm,ahx]
  obtain ⟨rfl,rfl⟩:=hm0;by_cases hy0:k=0
  ·subst hy0;have hc0:cys=[]:=acr (by omega);subst hc0;refine ⟨.slice a0 0 0,w,?_,.inl ⟨rfl,a0,rfl⟩,(Kp.refl w).sub (by simp),fun g hg=>.inl hg⟩;cases a0 <;> cases A <;> simp [Builtin.append_,run_underlying ht,sizeOf,typeInfo,hq,Builtin.lenOf,Builtin.firstCells,storeCells,loadCells,loadCellsFrom]
  obtain ⟨ad,rfl⟩:∃ ad,A=some ad:=by
   cases A with
   | none=>exact absurd (hA0 rfl) hy0
   | some ad=>exact ⟨ad,rfl⟩
  simp only [ac_] at h63 hlen;obtain ⟨v',w',hrun,h2,h3,h5,h6⟩:=runOwn (.slice none 0 0) 0 [] (World.ownsRow_nil _ _ _ _) (by simpa using h63) (by simpa using hlen);have heq:(Builtin.append_ #[t,t] ty #[.slice a0 0 0,.slice (some ad) k cy]).run P w=(Builtin.append_ #[t,t] ty #[.slice none 0 0,.slice (some ad) k cy]).run P w:=by
   cases a0 with
   | none=>rfl
   | some b0=>
    rw [run_append_nil (P:=P) w t ty e i zv ht hq hzv ad k cy cys (by rw [hfl,hsz]) (hcl ad rfl) (by omega) (by omega) (by rw [hby_]; omega)];rw [run_append_grow (P:=P) w t ty e i zv ht hq hzv b0 0 0 [] (by simp) (by simp) ad k cy cys (by rw [hfl,hsz]) (hcl ad rfl) (by omega) (by omega) (by
     rw [hby_]; exact ahI (by omega) (by simpa using hlen))]
    simp
  refine ⟨v',w',heq.trans hrun,.inr (by simpa using h2),⟨h3.os,h3.tape,h3.output,h3.size,fun b hb _=>h3.block b hb (by simp [Value.ownBlock])⟩,fun g hg=>?_⟩;have hg':=wL hg;rcases h5 with h5 | h5
  ·rw [h5] at hg'; cases hg'
  exact .inr ⟨by rw [h5] at hg'; exact (adb hg').symm,h6 h5⟩
 have hown:w.ownsRow lo e s v m olds:=by
  rcases hrow with ⟨_,_,h⟩ | h1
  ·exact absurd h hcap
  exact h1
 obtain ⟨v',w',hrun,h2,h3,h5,h6⟩:=runOwn v m olds hown h63 hlen;have hob:∀ g,v.ownBlock=some g->g ∈ ob v:=by
  intro g hg;rcases hown.2 with ⟨rfl,h0⟩ | ⟨g',cap,cur,rfl,_,_,hn,_⟩
  ·cases hg
  cases hg;simp only [ob];rw [if_neg]
  ·simp
  intro h0; subst h0; exact hcap ⟨_,by rw [show m=0 by omega]⟩
 refine ⟨v',w',hrun,.inr h2,⟨h3.os,h3.tape,h3.output,h3.size,fun b hb hn=>h3.block b hb fun he=>hn (hob b he.symm)⟩,fun g hg=>?_⟩;have hg':=wL hg;rcases h5 with h5 | h5
 ·rw [h5] at hg'; exact .inl (hob g hg')
 exact .inr ⟨by rw [h5] at hg'; exact (adb hg').symm,h6 h5⟩
end
end Go.Proofs.YticbaadnibdbkaaGreat
