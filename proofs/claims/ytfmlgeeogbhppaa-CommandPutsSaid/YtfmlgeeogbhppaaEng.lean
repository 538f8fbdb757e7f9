/- The engine: judgements over frames as short lists, and one lemma for each kind of operation. Conditions: none beyond each lemma's own. -/
import Derived.WalkKit
import Derived.WalkSpells
import Derived.WalkLawsBesides
import Derived.KernelRfl
namespace Go.Proofs.Ytfmlgeeogbhppaa
open Go.RowKit

abbrev Fr := List (Nat × Value)

def look : Fr → Nat → Option Value
  | [], _ => none
  | (j, v) :: r, i => bif Nat.beq j i then some v else look r i

def ev (fr : Fr) : Operand → Option Value
  | .tmp i => look fr i
  | .const v => some v
  | .global g => some (.pointer (some ⟨g, 0, none⟩))
  | .func f => some (.func (.func f) #[] #[])

/-- The frame 'a', of n slots, holds what the list says. -/
def M (n : Nat) (fr : Fr) (a : Act) : Prop :=
  a.defers = [] ∧ a.tmps.size = n ∧ ∀ i v, look fr i = some v → i < n ∧ a.tmps.getD i undef = v

theorem M.ev {n : Nat} {fr : Fr} {a : Act} {x : Operand} {v : Value} (h : M n fr a) (hx : ev fr x = some v) : a.eval x = v := by
  cases x with
  | tmp i => exact (h.2.2 i v hx).2
  | const c => exact Option.some.inj hx
  | global g => exact Option.some.inj hx
  | func f => exact Option.some.inj hx

theorem look_cons {j i : Nat} {v : Value} {r : Fr} : look ((j, v) :: r) i = if j = i then some v else look r i := by
  show (bif Nat.beq j i then some v else look r i) = _
  by_cases h : j = i
  · simp [h]
  · have : Nat.beq j i = false := by rw [← Bool.not_eq_true, Nat.beq_eq]; exact h
    simp [this, h]

theorem M.put {n d : Nat} {fr : Fr} {a : Act} {v : Value} (h : M n fr a) (hd : Nat.blt d n = true) : M n ((d, v) :: fr) (a.put (some d) v) := by
  have hdn : d < n := by simpa using hd
  obtain ⟨h1, h2, h3⟩ := h
  refine ⟨h1, by simp [Act.put, h2], fun i u hu => ?_⟩
  rw [look_cons] at hu
  by_cases hi : d = i
  · subst hi
    rw [if_pos rfl] at hu
    cases hu
    exact ⟨hdn, by simp [Act.put, Array.getD, h2, hdn]⟩
  · rw [if_neg hi] at hu
    obtain ⟨hin, hg⟩ := h3 i u hu
    refine ⟨hin, ?_⟩
    rw [← hg]
    simp [Act.put, Array.getD, h2, hin, hi]

theorem M.at_ {n : Nat} {fr : Fr} {a : Act} {t : Nat} {v : Value} (h : M n fr a) (hv : look fr t = some v) : a.tmps[t]?.getD undef = v := by
  have := (h.2.2 t v hv).2
  simpa [Array.getD_eq_getD_getElem?] using this
theorem M.put0 {n : Nat} {fr : Fr} {a : Act} {v : Value} (h : M n fr a) : M n fr (a.put none v) := h

def selF : List Nat → Fr → Option Fr
  | [], _ => some []
  | k :: ks, fr =>
    match look fr k, selF ks fr with
    | some v, some r => some ((k, v) :: r)
    | _, _ => none

theorem sel_look {fr : Fr} : ∀ {ks : List Nat} {fr' : Fr}, selF ks fr = some fr' → ∀ i v, look fr' i = some v → look fr i = some v
  | [], fr', h, i, v, hv => by simp [selF] at h; subst h; cases hv
  | k :: ks, fr', h, i, v, hv => by
    simp only [selF] at h
    split at h
    · rename_i u r hu hr
      cases h
      rw [look_cons] at hv
      by_cases hki : k = i
      · subst hki; rw [if_pos rfl] at hv; cases hv; exact hu
      · rw [if_neg hki] at hv; exact sel_look hr i v hv
    · cases h

theorem M.sub {n : Nat} {fr fr' : Fr} {a : Act} (h : M n fr a) (hs : ∀ i v, look fr' i = some v → look fr i = some v) : M n fr' a :=
  ⟨h.1, h.2.1, fun i v hv => h.2.2 i v (hs i v hv)⟩

/-! ### judgements -/
def WX (Q : Exit → Act → World → Prop) (n : Nat) (e : Exit) (fr : Fr) (w : World) : Prop := ∀ a, M n fr a → Q e a w
def WC (P : Program) (Q : Exit → Act → World → Prop) (n : Nat) (c : Code) (fr : Fr) (w : World) : Prop := ∀ a, M n fr a → c.wp P Q a w
def WO (P : Program) (Q : Exit → Act → World → Prop) (n : Nat) (l rest : List Oper) (fr : Fr) (w : World) : Prop := ∀ a, M n fr a → wpList P l.toArray Q rest a w
/-- The function hands back a value of which φ holds in the world behind the call. -/
def Ret (P : Program) (f : FuncId) (args : Array Value) (w : World) (φ : Value → World → Prop) : Prop := Calls P f args w fun e w' => ∃ v, e = .returned v ∧ φ v w'

theorem Ret.mono {P : Program} {f : FuncId} {args : Array Value} {w : World} {φ ψ : Value → World → Prop} (h : Ret P f args w φ) (hh : ∀ v w', φ v w' → ψ v w') : Ret P f args w ψ :=
  Calls.mono h fun _ _ ⟨v, he, hv⟩ => ⟨v, he, hh _ _ hv⟩

section rules
variable {P : Program} {Q : Exit → Act → World → Prop} {n : Nat} {fr : Fr} {w : World}

theorem WX.sel {e : Exit} (ks : List Nat) {fr' : Fr} (h : selF ks fr = some fr') (k : WX Q n e fr' w) : WX Q n e fr w :=
  fun a ha => k a (ha.sub (sel_look h))
theorem WC.sel {c : Code} (ks : List Nat) {fr' : Fr} (h : selF ks fr = some fr') (k : WC P Q n c fr' w) : WC P Q n c fr w :=
  fun a ha => k a (ha.sub (sel_look h))
theorem WO.sel {l rest : List Oper} (ks : List Nat) {fr' : Fr} (h : selF ks fr = some fr') (k : WO P Q n l rest fr' w) : WO P Q n l rest fr w :=
  fun a ha => k a (ha.sub (sel_look h))

theorem WC.seq {x y : Code} (h : WC P (Exit.then (y.wp P Q) Q) n x fr w) : WC P Q n (.seq x y) fr w := fun a ha => wp_seq (h a ha)
theorem WC.skip (h : WX Q n .normal fr w) : WC P Q n .skip fr w := fun a ha => wp_skip (h a ha)
theorem WC.label {l : Nat} (h : WX Q n .normal fr w) : WC P Q n (.label l) fr w := fun a ha => wp_label (h a ha)
theorem WC.exit {id : Nat} (h : WX Q n (.exit id) fr w) : WC P Q n (.exit id) fr w := fun a ha => wp_exit (h a ha)
theorem WC.ret (h : WX Q n .ret fr w) : WC P Q n .ret fr w := fun a ha => wp_ret (h a ha)
theorem WC.block {id : Nat} {c : Code} (h : WC P (Exit.inBlock id Q) n c fr w) : WC P Q n (.block id c) fr w := fun a ha => wp_block (h a ha)
theorem WC.region {id : Nat} {l : List Oper} (h : WO P Q n l l fr w) : WC P Q n (.region id l.toArray false) fr w := fun a ha => wp_region_lit (h a ha)
theorem WC.cond {c : Operand} {x y : Code} {b : Bool} (hc : ev fr c = some (.bool b)) (ht : b = true → WC P Q n x fr w) (hf : b = false → WC P Q n y fr w) : WC P Q n (.cond c x y) fr w :=
  fun a ha => wp_cond_split (ha.ev hc) (fun h => ht h a ha) (fun h => hf h a ha)
theorem WC.condT {c : Operand} {x y : Code} (hc : ev fr c = some (.bool true)) (ht : WC P Q n x fr w) : WC P Q n (.cond c x y) fr w :=
  fun a ha => wp_cond_true (ha.ev hc) (ht a ha)
theorem WC.condF {c : Operand} {x y : Code} (hc : ev fr c = some (.bool false)) (hf : WC P Q n y fr w) : WC P Q n (.cond c x y) fr w :=
  fun a ha => wp_cond_false (ha.ev hc) (hf a ha)

theorem WX.next {y : Code} (h : WC P Q n y fr w) : WX (Exit.then (y.wp P Q) Q) n .normal fr w := h
theorem WX.thenRet {k : Act → World → Prop} (h : WX Q n .ret fr w) : WX (Exit.then k Q) n .ret fr w := h
theorem WX.thenExit {k : Act → World → Prop} {id : Nat} (h : WX Q n (.exit id) fr w) : WX (Exit.then k Q) n (.exit id) fr w := h
theorem WX.blkNormal {id : Nat} (h : WX Q n .normal fr w) : WX (Exit.inBlock id Q) n .normal fr w := h
theorem WX.blkRet {id : Nat} (h : WX Q n .ret fr w) : WX (Exit.inBlock id Q) n .ret fr w := h
theorem WX.blkHit {id : Nat} (h : WX Q n .normal fr w) : WX (Exit.inBlock id Q) n (.exit id) fr w := fun a ha => by
  show (if id = id then Q .normal a w else _)
  rw [if_pos rfl]; exact h a ha
theorem WX.blkMiss {id id' : Nat} (hne : Nat.beq id' id = false) (h : WX Q n (.exit id') fr w) : WX (Exit.inBlock id Q) n (.exit id') fr w := fun a ha => by
  have : id' ≠ id := by rw [← Bool.not_eq_true, Nat.beq_eq] at hne; exact hne
  show (if id' = id then Q .normal a w else _)
  rw [if_neg this]; exact h a ha

/-! ### cuts and loops -/
/-- What is asked at a cut: the frame's list is fr', the world as J says; other exits as before. -/
def cutQ (Q : Exit → Act → World → Prop) (n : Nat) (fr' : Fr) (J : World → Prop) : Exit → Act → World → Prop
  | .normal, a, w => M n fr' a ∧ J w
  | e, a, w => Q e a w

/-- Two ways meet again behind x: at the list fr', in a world of J. -/
theorem WC.cut {x y : Code} (fr' : Fr) (J : World → Prop) (h : WC P (cutQ Q n fr' J) n x fr w) (k : ∀ w', J w' → WC P Q n y fr' w') : WC P Q n (.seq x y) fr w :=
  fun a ha => wp_seq (wp_mono (h a ha) fun e a' w' hq => by
    cases e with
    | normal => exact k w' hq.2 a' hq.1
    | exit id => exact hq
    | goto l => exact hq
    | ret => exact hq
    | panic ch => exact hq
    | outgrown => exact hq)
/-- ..and where nothing follows. -/
theorem WC.cutEnd {x : Code} (fr' : Fr) (J : World → Prop) (h : WC P (cutQ Q n fr' J) n x fr w) (k : ∀ w', J w' → WX Q n .normal fr' w') : WC P Q n x fr w :=
  fun a ha => wp_mono (h a ha) fun e a' w' hq => by
    cases e with
    | normal => exact k w' hq.2 a' hq.1
    | exit id => exact hq
    | goto l => exact hq
    | ret => exact hq
    | panic ch => exact hq
    | outgrown => exact hq
theorem WX.cutRet {fr' : Fr} {J : World → Prop} (h : WX Q n .ret fr w) : WX (cutQ Q n fr' J) n .ret fr w := h
theorem WX.cutExit {fr' : Fr} {J : World → Prop} {id : Nat} (h : WX Q n (.exit id) fr w) : WX (cutQ Q n fr' J) n (.exit id) fr w := h

/-- Each entry of fr' is found in fr, at an equal value. -/
def Has (fr : Fr) : Fr → Prop
  | [] => True
  | (i, v) :: r => (∃ u, look fr i = some u ∧ u = v) ∧ Has fr r
theorem Has.look {fr : Fr} : ∀ {fr' : Fr}, Has fr fr' → ∀ i v, look fr' i = some v → look fr i = some v
  | [], _, i, v, hv => by cases hv
  | (j, u) :: r, h, i, v, hv => by
    rw [look_cons] at hv
    by_cases hji : j = i
    · subst hji
      rw [if_pos rfl] at hv; cases hv
      obtain ⟨u', hu', rfl⟩ := h.1
      exact hu'
    · rw [if_neg hji] at hv; exact Has.look h.2 i v hv
theorem WX.cutDone {fr' : Fr} {J : World → Prop} (hf : Has fr fr') (hJ : J w) : WX (cutQ Q n fr' J) n .normal fr w := fun _ ha => ⟨ha.sub hf.look, hJ⟩

/-- A cut inside a region, behind its next 'rest.length - r2.length' operations. -/
theorem wpList_append {l : Array Oper} (l1 l2 : List Oper) : ∀ {a : Act} {w : World}, wpList P l (fun e a w => match e with | .normal => wpList P l Q l2 a w | e => Q e a w) l1 a w → (LetsOut Q → False) ∨ True → wpList P l Q (l1 ++ l2) a w := by
  induction l1 with
  | nil => intro a w h _; exact h
  | cons o l1 ih =>
    intro a w h hh
    simp only [wpList, List.cons_append] at h ⊢
    by_cases hw : Region.wanted o (yielded l a.tmps) = true
    · rw [if_pos hw] at h ⊢
      rcases h with h | ⟨h1, h2⟩
      · refine .inl ?_
        unfold Oper.wp at h ⊢
        generalize (execOp a.eval o).run P w = r at h
        cases r with
        | ok x w' =>
          cases x <;> simp only [Oper.upon] at h ⊢ <;> first | exact ih h hh | skip
          case enter f args =>
            refine h.mono fun e w'' he => ?_
            cases e with
            | returned v => exact ih he hh
            | panicked c => exact he
            | outgrown => obtain ⟨a', w', h'⟩ := he; exact ⟨a', w', h'⟩
          case row r args => exact h.mono fun v w'' hv => ih hv hh
        | halt x w' => cases x <;> simp only [Oper.upon] at h ⊢; exact h
      · obtain ⟨a', w', h'⟩ := h2
        exact .inr ⟨h1, a', w', h'⟩
    · rw [if_neg hw] at h ⊢
      exact ih h hh

theorem wpList_mono {l : Array Oper} {Q' : Exit → Act → World → Prop} (hq : ∀ e a w, Q e a w → Q' e a w) : ∀ (rest : List Oper) {a : Act} {w : World}, wpList P l Q rest a w → wpList P l Q' rest a w
  | [], _, _, h => hq _ _ _ h
  | o :: rest, a, w, h => by
    simp only [wpList] at h ⊢
    by_cases hw : Region.wanted o (yielded l a.tmps) = true
    · rw [if_pos hw] at h ⊢
      rcases h with h | ⟨h1, a', w', h'⟩
      · refine .inl ?_
        unfold Oper.wp at h ⊢
        generalize (execOp a.eval o).run P w = r at h
        cases r with
        | ok x w' =>
          cases x <;> simp only [Oper.upon] at h ⊢ <;> first | exact wpList_mono hq rest h | skip
          case enter f args =>
            refine h.mono fun e w'' he => ?_
            cases e with
            | returned v => exact wpList_mono hq rest he
            | panicked c => exact hq _ _ _ he
            | outgrown => obtain ⟨a', w', h'⟩ := he; exact ⟨a', w', hq _ _ _ h'⟩
          case row r args => exact h.mono fun v w'' hv => wpList_mono hq rest hv
        | halt x w' => cases x <;> simp only [Oper.upon] at h ⊢; exact hq _ _ _ h
      · exact .inr ⟨h1, a', w', hq _ _ _ h'⟩
    · rw [if_neg hw] at h ⊢
      exact wpList_mono hq rest h

theorem WO.cut {l rest : List Oper} (k : Nat) (fr' : Fr) (J : World → Prop) (h : WO P (cutQ Q n fr' J) n l (rest.take k) fr w) (hk : ∀ w', J w' → WO P Q n l (rest.drop k) fr' w') : WO P Q n l rest fr w := by
  intro a ha
  have h1 := h a ha
  rw [← List.take_append_drop k rest]
  refine wpList_append _ _ ?_ (.inr trivial)
  refine wpList_mono (fun e a' w' hq => ?_) _ h1
  cases e with
  | normal => exact hk w' hq.2 a' hq.1
  | exit id => exact hq
  | goto l => exact hq
  | ret => exact hq
  | panic ch => exact hq
  | outgrown => exact hq

/-- What a round of a loop ends in. -/
def loopQ {σ : Type} (Q : Exit → Act → World → Prop) (n : Nat) (F : σ → Fr) (J : σ → World → Prop) (μ : σ → Nat) (m : Nat) : Exit → Act → World → Prop
  | .normal, a, w => ∃ s, M n (F s) a ∧ J s w ∧ μ s < m
  | e, a, w => Q e a w

theorem WC.loopS {σ : Type} {c : Code} (F : σ → Fr) (J : σ → World → Prop) (μ : σ → Nat) (s0 : σ) (h0 : ∀ i v, look (F s0) i = some v → look fr i = some v) (hJ : J s0 w)
    (round : ∀ s w', J s w' → WC P (loopQ Q n F J μ (μ s)) n c (F s) w') : WC P Q n (.loop c) fr w := by
  intro a ha
  classical
  let D : Act → World → σ → Prop := fun a w s => M n (F s) a ∧ J s w
  have key : ∀ m, ∀ s a w, μ s = m → D a w s → ∀ (b : Frame) (k : List Item) (cs : List Frame),
      ∃ e a' w', Q e a' w' ∧ Arrives P (lone (b.at a (.code c :: .inLoop c :: k)) cs w) b k cs e a' w' := by
    intro m
    induction m using Nat.strongRecOn with
    | _ m ih =>
      intro s a w hm hD b k cs
      obtain ⟨e, a₁, w₁, hq, harr⟩ := round s w hD.2 a hD.1 b (.inLoop c :: k) cs
      cases e with
      | normal =>
        obtain ⟨s', hM, hJ', hlt⟩ := hq
        obtain ⟨e₂, a₂, w₂, hq₂, harr₂⟩ := ih (μ s') (hm ▸ hlt) s' a₁ w₁ rfl ⟨hM, hJ'⟩ b k cs
        exact ⟨e₂, a₂, w₂, hq₂, .of_steps (Steps.trans harr (.one step_inLoop)) harr₂⟩
      | exit id => exact ⟨_, a₁, w₁, hq, .pass (x := .inLoop c) rfl (fun _ _ => .inl (by simp)) harr⟩
      | goto l => exact ⟨_, a₁, w₁, hq, .pass (x := .inLoop c) rfl (fun _ _ => .inl (by simp)) harr⟩
      | ret => exact ⟨_, a₁, w₁, hq, .pass (x := .inLoop c) rfl (fun _ _ => .inl (by simp)) harr⟩
      | panic ch => exact ⟨_, a₁, w₁, hq, .pass (x := .inLoop c) rfl (fun _ _ => .inl (by simp)) harr⟩
      | outgrown => exact ⟨_, a₁, w₁, hq, .pass (x := .inLoop c) rfl (fun _ _ => .inl (by simp)) harr⟩
  intro b k cs
  obtain ⟨e, a', w', hq, harr⟩ := key _ s0 a w rfl ⟨ha.sub h0, hJ⟩ b k cs
  exact ⟨e, a', w', hq, .of_steps (.one step_loop) harr⟩
theorem WX.loopRet {σ : Type} {F : σ → Fr} {J : σ → World → Prop} {μ : σ → Nat} {m : Nat} (h : WX Q n .ret fr w) : WX (loopQ Q n F J μ m) n .ret fr w := h
theorem WX.loopExit {σ : Type} {F : σ → Fr} {J : σ → World → Prop} {μ : σ → Nat} {m id : Nat} (h : WX Q n (.exit id) fr w) : WX (loopQ Q n F J μ m) n (.exit id) fr w := h
theorem WX.loopNext {σ : Type} {F : σ → Fr} {J : σ → World → Prop} {μ : σ → Nat} {m : Nat} (s : σ) (hf : Has fr (F s)) (hJ : J s w) (hm : μ s < m) : WX (loopQ Q n F J μ m) n .normal fr w :=
  fun _ ha => ⟨s, ha.sub hf.look, hJ, hm⟩

/-! ### operations -/
def Runs (P : Program) (n : Nat) (fr : Fr) (w : World) (op : Op) (ty : TypeId) (v : Value) (w' : World) : Prop :=
  ∀ a d pos af g, M n fr a → (execOp a.eval ⟨d, op, ty, pos, af, g⟩).run P w = .ok (.value v) w'
def Skips (P : Program) (n : Nat) (fr : Fr) (w : World) (op : Op) (ty : TypeId) (w' : World) : Prop :=
  ∀ a d pos af g, M n fr a → (execOp a.eval ⟨d, op, ty, pos, af, g⟩).run P w = .ok .skip w'
def Enters (P : Program) (n : Nat) (fr : Fr) (w : World) (op : Op) (ty : TypeId) (f : FuncId) (args : Array Value) : Prop :=
  ∀ a d pos af g, M n fr a → (execOp a.eval ⟨d, op, ty, pos, af, g⟩).run P w = .ok (.enter f args) w

variable {l rest : List Oper} {d : Nat} {op : Op} {ty : TypeId} {pos : String} {af : Array Edge}

theorem WO.nil (h : WX Q n .normal fr w) : WO P Q n l [] fr w := fun a ha => h a ha
theorem WO.v {v : Value} {w' : World} (h : Runs P n fr w op ty v w') (hd : Nat.blt d n = true) (k : WO P Q n l rest ((d, v) :: fr) w') : WO P Q n l (⟨some d, op, ty, pos, af, none⟩ :: rest) fr w := fun a ha =>
  wpList_plain rfl fun K hK => by
    unfold Oper.wp
    rw [h a _ _ _ _ ha]
    exact hK _ _ (k _ (ha.put hd))
theorem WO.v0 {v : Value} {w' : World} (h : Runs P n fr w op ty v w') (k : WO P Q n l rest fr w') : WO P Q n l (⟨none, op, ty, pos, af, none⟩ :: rest) fr w := fun a ha =>
  wpList_plain rfl fun K hK => by
    unfold Oper.wp
    rw [h a _ _ _ _ ha]
    exact hK _ _ (k _ ha)
theorem WO.s {w' : World} (h : Skips P n fr w op ty w') (k : WO P Q n l rest fr w') : WO P Q n l (⟨none, op, ty, pos, af, none⟩ :: rest) fr w := fun a ha =>
  wpList_plain rfl fun K hK => by
    unfold Oper.wp
    rw [h a _ _ _ _ ha]
    exact hK _ _ (k _ ha)
theorem WO.c {f : FuncId} {args : Array Value} {φ : Value → World → Prop} (h : Enters P n fr w op ty f args) (hc : Ret P f args w φ) (hd : Nat.blt d n = true) (k : ∀ v w', φ v w' → WO P Q n l rest ((d, v) :: fr) w') :
    WO P Q n l (⟨some d, op, ty, pos, af, none⟩ :: rest) fr w := fun a ha =>
  wpList_plain rfl fun K hK => by
    unfold Oper.wp
    rw [h a _ _ _ _ ha]
    refine Calls.mono hc fun e w' ⟨v, he, hv⟩ => ?_
    subst he
    exact hK _ _ (k v w' hv _ (ha.put hd))
theorem WO.c0 {f : FuncId} {args : Array Value} {φ : Value → World → Prop} (h : Enters P n fr w op ty f args) (hc : Ret P f args w φ) (k : ∀ v w', φ v w' → WO P Q n l rest fr w') :
    WO P Q n l (⟨none, op, ty, pos, af, none⟩ :: rest) fr w := fun a ha =>
  wpList_plain rfl fun K hK => by
    unfold Oper.wp
    rw [h a _ _ _ _ ha]
    refine Calls.mono hc fun e w' ⟨v, he, hv⟩ => ?_
    subst he
    exact hK _ _ (k v w' hv _ ha)

def idst : List Oper → Nat → Option Nat
  | [], _ => none
  | o :: _, 0 => o.dst
  | _ :: r, i + 1 => idst r i
theorem idst_eq : ∀ (l : List Oper) (j : Nat), idst l j = (l[j]?).bind (·.dst)
  | [], _ => rfl
  | _ :: _, 0 => rfl
  | _ :: r, i + 1 => idst_eq r i
theorem yielded_of {j t : Nat} {b : Bool} {a : Act} (ha : M n fr a) (hj : idst l j = some t) (hv : look fr t = some (.bool b)) : yielded l.toArray a.tmps j = some b := by
  obtain ⟨h1, h2⟩ := ha.2.2 t _ hv
  rw [idst_eq] at hj
  have h3 : a.tmps[t]? = some (.bool b) := by
    have : t < a.tmps.size := by rw [ha.2.1]; exact h1
    simp only [Array.getD, this, dite_true] at h2
    rw [Array.getElem?_eq_getElem this]; exact congrArg some h2
  unfold yielded
  have h4 : ((l.toArray[j]?).bind (·.dst)) = some t := by simpa using hj
  rw [h4]
  simp [h3]
/-- A guarded operation that is wanted. -/
theorem WO.on {dst : Option Nat} {j t : Nat} {b b' : Bool} (hj : idst l j = some t) (hv : look fr t = some (.bool b')) (hb : b' = b) (k : WO P Q n l (⟨dst, op, ty, pos, af, none⟩ :: rest) fr w) :
    WO P Q n l (⟨dst, op, ty, pos, af, some (j, b)⟩ :: rest) fr w := fun a ha => by
  have hk := k a ha
  have hy := yielded_of (l := l) ha hj hv
  simp only [wpList, Region.wanted, hy, hb, BEq.rfl, if_true] at hk ⊢
  exact hk
/-- ..and one that is not. -/
theorem WO.off {j t : Nat} {b b' : Bool} (hj : idst l j = some t) (hv : look fr t = some (.bool b')) (hb : b' = !b) (hd : Nat.blt d n = true) (k : WO P Q n l rest ((d, undef) :: fr) w) :
    WO P Q n l (⟨some d, op, ty, pos, af, some (j, b)⟩ :: rest) fr w := fun a ha => by
  have hk := k _ (ha.put hd)
  have hy := yielded_of (l := l) ha hj hv
  have hne : ((some b' : Option Bool) == some b) = false := by subst hb; cases b <;> rfl
  simp only [wpList, Region.wanted, hy, hne, Bool.false_eq_true, if_false] at hk ⊢
  exact hk
theorem WO.off0 {j t : Nat} {b b' : Bool} (hj : idst l j = some t) (hv : look fr t = some (.bool b')) (hb : b' = !b) (k : WO P Q n l rest fr w) :
    WO P Q n l (⟨none, op, ty, pos, af, some (j, b)⟩ :: rest) fr w := fun a ha => by
  have hk := k _ ha
  have hy := yielded_of (l := l) ha hj hv
  have hne : ((some b' : Option Bool) == some b) = false := by subst hb; cases b <;> rfl
  simp only [wpList, Region.wanted, hy, hne, Bool.false_eq_true, if_false] at hk ⊢
  exact hk

theorem yielded_undef {j t : Nat} {a : Act} (ha : M n fr a) (hj : idst l j = some t) (hv : look fr t = some undef) : yielded l.toArray a.tmps j = none := by
  obtain ⟨h1, h2⟩ := ha.2.2 t _ hv
  rw [idst_eq] at hj
  have h3 : a.tmps[t]? = some undef := by
    have : t < a.tmps.size := by rw [ha.2.1]; exact h1
    simp only [Array.getD, this, dite_true] at h2
    rw [Array.getElem?_eq_getElem this]; exact congrArg some h2
  unfold yielded
  have h4 : ((l.toArray[j]?).bind (·.dst)) = some t := by simpa using hj
  rw [h4]
  simp [h3, undef]
/-- A guarded operation whose guard was not run itself. -/
theorem WO.offU {j t : Nat} {b : Bool} (hj : idst l j = some t) (hv : look fr t = some undef) (hd : Nat.blt d n = true) (k : WO P Q n l rest ((d, undef) :: fr) w) :
    WO P Q n l (⟨some d, op, ty, pos, af, some (j, b)⟩ :: rest) fr w := fun a ha => by
  have hk := k _ (ha.put hd)
  have hy := yielded_undef (l := l) ha hj hv
  have hne : ((none : Option Bool) == some b) = false := rfl
  simp only [wpList, Region.wanted, hy, hne, Bool.false_eq_true, if_false] at hk ⊢
  exact hk
theorem WO.offU0 {j t : Nat} {b : Bool} (hj : idst l j = some t) (hv : look fr t = some undef) (k : WO P Q n l rest fr w) :
    WO P Q n l (⟨none, op, ty, pos, af, some (j, b)⟩ :: rest) fr w := fun a ha => by
  have hk := k _ ha
  have hy := yielded_undef (l := l) ha hj hv
  have hne : ((none : Option Bool) == some b) = false := rfl
  simp only [wpList, Region.wanted, hy, hne, Bool.false_eq_true, if_false] at hk ⊢
  exact hk

end rules

/-! ### a function's body -/
theorem look_zip : ∀ (vs : List Value) (k i : Nat) (v : Value), look ((List.range' k vs.length).zip vs) i = some v → k ≤ i ∧ vs[i - k]? = some v
  | [], k, i, v, h => by simp [look] at h
  | u :: vs, k, i, v, h => by
    simp only [List.length_cons, List.range'_succ, List.zip_cons_cons] at h
    rw [look_cons] at h
    by_cases hk : k = i
    · subst hk; rw [if_pos rfl] at h; simp at h ⊢; exact h
    · rw [if_neg hk] at h
      obtain ⟨h1, h2⟩ := look_zip vs (k + 1) i v h
      refine ⟨by omega, ?_⟩
      rw [show i - k = (i - (k + 1)) + 1 by omega]
      simpa using h2
/-- The frame that a call begins with. -/
def args0 : Nat → List Value → Fr
  | _, [] => []
  | k, v :: r => (k, v) :: args0 (k + 1) r
theorem args0_eq : ∀ (vs : List Value) (k : Nat), args0 k vs = (List.range' k vs.length).zip vs
  | [], _ => rfl
  | v :: r, k => by simp [args0, List.range'_succ, args0_eq r (k + 1)]
theorem Ret.enter {P : Program} {f : FuncId} {fn : Func} {c : Code} {args : List Value} {w : World} {φ : Value → World → Prop} {n : Nat} {fr : Fr} (hf : P.funcs[f]? = some fn) (hb : fn.body = some c) (hn : fn.ntmps = n)
    (hle : Nat.ble args.length n = true) (hfr : args0 0 args = fr)
    (h : WC P (bodyPost P fn fun e w' => ∃ v, e = .returned v ∧ φ v w') n c fr w) : Ret P f args.toArray w φ := by
  subst hn
  have hle' : args.length ≤ fn.ntmps := by simpa using hle
  refine calls_of_wp hf hb (h _ ⟨rfl, ?_, fun i v hv => ?_⟩)
  · simp; omega
  · rw [← hfr, args0_eq] at hv
    obtain ⟨_, h2⟩ := look_zip args 0 i v hv
    rw [Nat.sub_zero] at h2
    have hi : i < args.length := (List.getElem?_eq_some_iff.1 h2).1
    refine ⟨by omega, ?_⟩
    have h3 : args[i] = v := by rw [List.getElem?_eq_getElem hi] at h2; exact Option.some.inj h2
    simp [Array.getD, hi, h3]
    omega

section ends
variable {P : Program} {fn : Func} {φ : Value → World → Prop} {n : Nat} {fr : Fr} {w : World}
theorem WX.endRet (h : WX (bodyPost P fn fun e w' => ∃ v, e = .returned v ∧ φ v w') n .ret fr w) : WX (bodyPost P fn fun e w' => ∃ v, e = .returned v ∧ φ v w') n .normal fr w := h
theorem WX.ret_of {v : Value} (h : ∀ a, M n fr a → (results fn a.tmps).run P w = .ok v w) (hφ : φ v w) : WX (bodyPost P fn fun e w' => ∃ v, e = .returned v ∧ φ v w') n .ret fr w :=
  fun a ha => ⟨ha.1, v, h a ha, v, rfl, hφ⟩
theorem WX.ret0 (hr : fn.results = #[]) (hφ : φ (.tuple #[]) w) : WX (bodyPost P fn fun e w' => ∃ v, e = .returned v ∧ φ v w') n .ret fr w :=
  WX.ret_of (fun a _ => by simp [results, hr]) hφ
theorem WX.ret1 {t : Tmp} {v : Value} (hr : fn.results = #[.tmp t]) (hv : look fr t = some v) (hφ : φ v w) : WX (bodyPost P fn fun e w' => ∃ v, e = .returned v ∧ φ v w') n .ret fr w :=
  WX.ret_of (fun a ha => by simp [results, hr, ha.at_ hv]) hφ
theorem WX.ret2 {t u : Tmp} {v v' : Value} (hr : fn.results = #[.tmp t, .tmp u]) (hv : look fr t = some v) (hv' : look fr u = some v') (hφ : φ (.tuple #[v, v']) w) : WX (bodyPost P fn fun e w' => ∃ v, e = .returned v ∧ φ v w') n .ret fr w :=
  WX.ret_of (fun a ha => by simp [results, hr, ha.at_ hv, ha.at_ hv']) hφ
theorem WX.ret3 {t u x : Tmp} {v v' v'' : Value} (hr : fn.results = #[.tmp t, .tmp u, .tmp x]) (hv : look fr t = some v) (hv' : look fr u = some v') (hv'' : look fr x = some v'') (hφ : φ (.tuple #[v, v', v'']) w) :
    WX (bodyPost P fn fun e w' => ∃ v, e = .returned v ∧ φ v w') n .ret fr w :=
  WX.ret_of (fun a ha => by simp [results, hr, ha.at_ hv, ha.at_ hv', ha.at_ hv'']) hφ
theorem WX.ret4 {t u x y : Tmp} {v v' v'' v3 : Value} (hr : fn.results = #[.tmp t, .tmp u, .tmp x, .tmp y]) (hv : look fr t = some v) (hv' : look fr u = some v') (hv'' : look fr x = some v'') (hv3 : look fr y = some v3) (hφ : φ (.tuple #[v, v', v'', v3]) w) :
    WX (bodyPost P fn fun e w' => ∃ v, e = .returned v ∧ φ v w') n .ret fr w :=
  WX.ret_of (fun a ha => by simp [results, hr, ha.at_ hv, ha.at_ hv', ha.at_ hv'', ha.at_ hv3]) hφ
end ends

end Go.Proofs.Ytfmlgeeogbhppaa
