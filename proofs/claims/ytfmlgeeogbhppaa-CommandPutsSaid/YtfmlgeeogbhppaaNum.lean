/- Shifts to the left, 'or' of numbers without a sign, scopes without jumps. Conditions: each lemma's own. -/
import Derived.Test.YtfmlgeeogbhppaaMap
import Derived.Scope
namespace Go.Proofs.Ytfmlgeeogbhppaa
open Go.RowKit

section
variable {P : Program} {n : Nat} {fr : Fr} {w : World} {x y : Operand} {ty t t' : TypeId} {Q : Exit → Act → World → Prop}
theorem R.shlU64 {kc : IntKind} {a b : Nat} (hx : ev fr x = some (.int .u64 (a : Int))) (hy : ev fr y = some (.int kc (b : Int))) (hb : b ≤ 64) (h : a * 2 ^ b < 18446744073709551616) : Runs P n fr w (.binOp .shl t x y t') ty (.int .u64 ((a * 2 ^ b : Nat) : Int)) w := fun _ _ _ _ _ ha => by
  have e : IntKind.u64.wrap ((a : Int) * 2 ^ b) = ((a * 2 ^ b : Nat) : Int) := by
    rw [show (a : Int) * 2 ^ b = ((a * 2 ^ b : Nat) : Int) by simp]; exact wrap_u64 h
  have e2 : Op.shift .shl .u64 (a : Int) kc (b : Int) = pure (.int .u64 ((a * 2 ^ b : Nat) : Int)) := by
    rw [shift_shl .u64 kc (a : Int) (b : Int) (Int.natCast_nonneg b) (show (b : Int) ≤ ((64 : Nat) : Int) by omega), Int.toNat_natCast, e]
  simp only [execOp, ha.ev hx, ha.ev hy, eqGuard_shl, binOp_shl, e2]
  rfl
theorem R.orU64 {a b : Nat} (hx : ev fr x = some (.int .u64 (a : Int))) (hy : ev fr y = some (.int .u64 (b : Int))) (h1 : a < 18446744073709551616) (h2 : b < 18446744073709551616) : Runs P n fr w (.binOp .or t x y t') ty (.int .u64 ((a ||| b : Nat) : Int)) w := fun _ _ _ _ _ ha => by
  have e : bits .or .u64 (a : Int) (b : Int) = ((a ||| b : Nat) : Int) := by
    have h3 : ∀ c : Nat, (BitVec.ofInt 64 (c : Int)) = BitVec.ofNat 64 c := fun c => by rw [BitVec.ofInt_natCast]
    show IntKind.u64.wrap ((BitVec.ofInt 64 (a : Int) ||| BitVec.ofInt 64 (b : Int)).toNat : Int) = _
    rw [h3, h3, BitVec.toNat_or, BitVec.toNat_ofNat, BitVec.toNat_ofNat, Nat.mod_eq_of_lt (by simpa using h1), Nat.mod_eq_of_lt (by simpa using h2)]
    exact wrap_u64 (Nat.or_lt_two_pow (n := 64) h1 h2)
  simp [execOp, ha.ev hx, ha.ev hy, eqGuard_or, binOp_or, intBits_or, e]
/-- What is asked where two ways meet again at values that are not known ahead. -/
def cutSQ {σ : Type} (Q : Exit → Act → World → Prop) (n : Nat) (F : σ → Fr) (J : σ → World → Prop) : Exit → Act → World → Prop
  | .normal, a, w => ∃ s, M n (F s) a ∧ J s w
  | e, a, w => Q e a w
theorem WC.cutEndSK {σ : Type} {cc : Code} (ks : List Nat) {fr2 : Fr} (_hs : selF ks fr = some fr2) (G : σ → Fr) (J : σ → World → Prop) (h : WC P (cutSQ Q n (fun s => G s ++ fr2) J) n cc fr w) (k : ∀ s w', J s w' → WX Q n .normal (G s ++ fr2) w') : WC P Q n cc fr w :=
  fun a ha => wp_mono (h a ha) fun e a' w' hq => by
    cases e with
    | normal => obtain ⟨s, h1, h2⟩ := hq; exact k s w' h2 a' h1
    | exit id => exact hq
    | goto l => exact hq
    | ret => exact hq
    | panic ch => exact hq
    | outgrown => exact hq
theorem WX.cutSRet {σ : Type} {F : σ → Fr} {J : σ → World → Prop} (h : WX Q n .ret fr w) : WX (cutSQ Q n F J) n .ret fr w := h
theorem WX.cutSExit {σ : Type} {F : σ → Fr} {J : σ → World → Prop} {id : Nat} (h : WX Q n (.exit id) fr w) : WX (cutSQ Q n F J) n (.exit id) fr w := h
theorem WX.cutDoneSK {σ : Type} {frX fr2 : Fr} {G : σ → Fr} {J : σ → World → Prop} (ks : List Nat) (s : σ) (hs : selF ks frX = some fr2) (hch : Has frX (G s)) (hJ : J s w) : WX (cutSQ Q n (fun s => G s ++ fr2) J) n .normal frX w :=
  fun _ ha => ⟨s, ha.sub (look_join hch hs), hJ⟩
theorem R.castV {op : Op} {v v' : Value} {w' : World} (h : Runs P n fr w op ty v w') (e : v = v') : Runs P n fr w op ty v' w' := e ▸ h
theorem WC.scope {c : Code} (h : WC P (Exit.noGoto Q) n c fr w) : WC P Q n (.scope c) fr w := fun a ha => wp_scope_straight (h a ha)
theorem WX.scNormal (h : WX Q n .normal fr w) : WX (Exit.noGoto Q) n .normal fr w := h
theorem WX.scRet (h : WX Q n .ret fr w) : WX (Exit.noGoto Q) n .ret fr w := h
theorem WX.scExit {id : Nat} (h : WX Q n (.exit id) fr w) : WX (Exit.noGoto Q) n (.exit id) fr w := h
end

end Go.Proofs.Ytfmlgeeogbhppaa
