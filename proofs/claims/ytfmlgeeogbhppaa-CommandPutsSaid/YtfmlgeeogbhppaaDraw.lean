/- Regions that draw their order: one walk for each operation serves every order (rely and guarantee). Conditions: each lemma's own. -/
import Derived.Test.YtfmlgeeogbhppaaSet
import Derived.StillTail
namespace Go.Proofs.Ytfmlgeeogbhppaa
open Go.RowKit

/-- What an operation leans on (earlier ones), which old blocks it may write, and what is known of what it yields. -/
structure Sp where
  deps : List Nat
  S : List Nat
  V : Value → World → Prop
/-- It yields this very value. -/
def Sp.ex (deps : List Nat) (c : Value) : Sp := ⟨deps, [], fun u _ => u = c⟩
def spAt (sp : List Sp) (i : Nat) : Sp := sp.getD i ⟨[], [], fun _ _ => True⟩
def allS : List Sp → List Nat
  | [] => []
  | s :: r => s.S ++ allS r
def othS : List Sp → Nat → List Nat
  | [], _ => []
  | _ :: r, 0 => allS r
  | s :: r, i + 1 => s.S ++ othS r i
def depFr (l : List Oper) (fr : Fr) (vs : Nat → Value) : List Nat → Fr
  | [] => fr
  | j :: r => match idst l j with
    | some d => (d, vs j) :: depFr l fr vs r
    | none => depFr l fr vs r
def factsOf (sp : List Sp) (vs : Nat → Value) (w : World) : List Nat → Prop
  | [] => True
  | j :: r => (spAt sp j).V (vs j) w ∧ factsOf sp vs w r
def stepQ (N : Nat) (d? : Option Nat) (S : List Nat) (V : Value → World → Prop) (w : World) : Exit → Act → World → Prop :=
  fun e a' w' => e = .normal ∧ a'.defers = [] ∧ ∃ v, (∀ d, d? = some d → d < N ∧ a'.tmps.getD d undef = v) ∧ V v w' ∧ Kp S w w'
theorem WX.stepDone {N d : Nat} {S : List Nat} {V : Value → World → Prop} {w w' : World} {fr : Fr} {v : Value} (h : look fr d = some v) (hV : V v w') (hk : Kp S w w') : WX (stepQ N (some d) S V w) N .normal fr w' :=
  fun _ ha => ⟨rfl, ha.1, v, fun d' hd => by cases hd; exact ha.2.2 _ _ h, hV, hk⟩
theorem WX.stepDone0 {N : Nat} {S : List Nat} {V : Value → World → Prop} {w w' : World} {fr : Fr} (hV : V undef w') (hk : Kp S w w') : WX (stepQ N none S V w) N .normal fr w' :=
  fun _ ha => ⟨rfl, ha.1, undef, (fun _ hd => nomatch hd), hV, hk⟩
theorem WX.haves {Q : Exit → Act → World → Prop} {n : Nat} {e : Exit} {fr fr' : Fr} {w : World} (hf : Has fr fr') (h : WX Q n e fr' w) : WX Q n e fr w := fun a ha => h a (ha.sub hf.look)
theorem WO.haves {P : Program} {Q : Exit → Act → World → Prop} {n : Nat} {l rest : List Oper} {fr fr' : Fr} {w : World} (hf : Has fr fr') (h : WO P Q n l rest fr' w) : WO P Q n l rest fr w := fun a ha => h a (ha.sub hf.look)

def binds' (o : Oper) : List Nat := (o.after.toList.filter (Region.binds .any ·)).map (·.on)
def predsAt (l : List Oper) (i : Nat) : List Nat := match l[i]? with | some o => binds' o | none => []
/-- The Bool of a region: n operations in any order, the others behind them, one by one. -/
def drawB (l : List Oper) (sp : List Sp) (slots : List Nat) (n : Nat) : Bool :=
  decide (n ≤ l.length) && decide (sp.length = n) &&
  ((List.range n).all fun i => (predsAt l i).all (fun j => decide (j < i)) &&
    (spAt sp i).deps.all (fun j => decide (j < i) && ((predsAt l i).contains j || (predsAt l i).any (fun k => (spAt sp k).deps.contains j))) &&
    (match idst l i with
     | some d => !slots.contains d && (List.range n).all (fun j => j == i || idst l j != some d)
     | none => true)) &&
  ((decide (n = l.length)) || (Region.sinkB .any l.toArray n && Region.chainB .any l.toArray n)) &&
  Region.seqB .any l.toArray (l.length - n) n ((Array.replicate n true) ++ (Array.replicate (l.length - n) false))

theorem getD_ext {x y : Array Bool} (hs : x.size = y.size) (h : ∀ i, i < x.size → x.getD i false = y.getD i false) : x = y := by
  apply Array.ext hs
  intro i h1 h2
  have := h i h1
  simpa [Array.getD, h1, h2] using this
theorem countP_set {n i : Nat} {p q : Nat → Bool} (hi : i < n) (hp : p i = true) (hq : q i = false) (h : ∀ j, j ≠ i → q j = p j) : (List.range n).countP q + 1 = (List.range n).countP p := by
  induction n with
  | zero => omega
  | succ n ih =>
    rw [List.range_succ, List.countP_append, List.countP_append]
    by_cases hn : i = n
    · subst hn
      have : (List.range i).countP q = (List.range i).countP p := List.countP_congr fun j hj => by rw [h j (by have := List.mem_range.1 hj; omega)]
      simp [this, hp, hq]
    · have := ih (by omega)
      have e : q n = p n := h n (fun e => hn e.symm)
      simp only [List.countP_singleton, e]
      omega

theorem upon_put {P : Program} {o : Oper} {a : Act} {K K' : Act → World → Prop} {Q Q' : Exit → Act → World → Prop} {r : Result Next} (h : o.upon P a K Q r) (hK : ∀ v w, K (a.put o.dst v) w → K' (a.put o.dst v) w) (hD : ∀ d w, ¬ K ({ a with defers := d :: a.defers }.put o.dst undef) w)
    (hQ : ∀ e a w, e ≠ .normal → ¬ Q e a w) : o.upon P a K' Q' r := by
  cases r with
  | ok x w' =>
    cases x <;> simp only [Oper.upon] at h ⊢
    case value u => exact hK _ _ h
    case skip => exact hK _ _ h
    case defer d => exact absurd h (hD _ _)
    case enter f args =>
      refine h.mono fun e w'' he => ?_
      cases e with
      | returned v => exact hK _ _ he
      | panicked c => exact absurd he (hQ _ _ _ (by simp))
      | outgrown => obtain ⟨a', w', h'⟩ := he; exact absurd h' (hQ _ _ _ (by simp))
    case row r args => exact h.mono fun v w'' hv => hK _ _ hv
  | halt x w' =>
    cases x <;> simp only [Oper.upon] at h ⊢
    exact absurd h (hQ _ _ _ (by simp))

theorem mem_othS : ∀ {sp : List Sp} {i j : Nat}, i < sp.length → i ≠ j → ∀ g ∈ (spAt sp i).S, g ∈ othS sp j
  | s :: r, 0, 0, _, hne, g, _ => absurd rfl hne
  | s :: r, 0, j + 1, _, _, g, hg => List.mem_append_left _ hg
  | s :: r, i + 1, 0, hi, _, g, hg => by
    have : ∀ (r : List Sp) (i : Nat), i < r.length → g ∈ (spAt r i).S → g ∈ allS r := by
      intro r
      induction r with
      | nil => intro i hi; simp at hi
      | cons s r ih =>
        intro i hi hg
        cases i with
        | zero => exact List.mem_append_left _ hg
        | succ i => exact List.mem_append_right _ (ih i (by simpa using hi) hg)
    exact this r i (by simpa using hi) hg
  | s :: r, i + 1, j + 1, hi, hne, g, hg => List.mem_append_right _ (mem_othS (sp := r) (by simpa using hi) (by omega) g hg)
  | [], i, j, hi, _, _, _ => by simp at hi
theorem mem_allS : ∀ {r : List Sp} {i : Nat}, i < r.length → ∀ g ∈ (spAt r i).S, g ∈ allS r
  | s :: r, 0, _, g, hg => List.mem_append_left _ hg
  | s :: r, i + 1, hi, g, hg => List.mem_append_right _ (mem_allS (by simpa using hi) g hg)
  | [], i, hi, g, hg => by simp at hi

section
variable {P : Program} {Q : Exit → Act → World → Prop} {N n id : Nat} {l : List Oper} {sp : List Sp} {fr : Fr} {w : World}

/-- What holds while the first n come in some order. -/
structure DInv (N n : Nat) (l : List Oper) (sp : List Sp) (fr : Fr) (w0 : World) (listed : Array Bool) (a : Act) (w : World) : Prop where
  head : HeadInv .any l.toArray n listed
  clo : ∀ i, i < n → listed.getD i false = true → ∀ j ∈ (spAt sp i).deps, listed.getD j false = true
  fr : M N fr a
  vals : ∃ vs : Nat → Value, ∀ i, i < n → listed.getD i false = true → (∀ d, idst l i = some d → d < N ∧ a.tmps.getD d undef = vs i) ∧ (spAt sp i).V (vs i) w
  kp : ∃ S, Kp S w0 w ∧ ∀ g ∈ S, ∃ i, i < n ∧ listed.getD i false = true ∧ g ∈ (spAt sp i).S

theorem depFr_look {a : Act} (hfr : M N fr a) {vs : Nat → Value} : ∀ (ds : List Nat), (∀ j ∈ ds, ∀ d, idst l j = some d → d < N ∧ a.tmps.getD d undef = vs j) → M N (depFr l fr vs ds) a
  | [], _ => hfr
  | j :: r, h => by
    have ih := depFr_look hfr (vs := vs) r fun j hj => h j (List.mem_cons_of_mem _ hj)
    unfold depFr
    split
    · rename_i d hd
      refine ⟨ih.1, ih.2.1, fun i v hv => ?_⟩
      rw [look_cons] at hv
      by_cases hi : d = i
      · subst hi
        rw [if_pos rfl] at hv
        cases hv
        exact h j (by simp) d hd
      · rw [if_neg hi] at hv
        exact ih.2.2 i v hv
    · exact ih
theorem factsOf_mk {vs : Nat → Value} {w : World} : ∀ (ds : List Nat), (∀ j ∈ ds, (spAt sp j).V (vs j) w) → factsOf sp vs w ds
  | [], _ => trivial
  | j :: r, h => ⟨h j (by simp), factsOf_mk r fun j hj => h j (List.mem_cons_of_mem _ hj)⟩

theorem WC.draw (hm : P.follows .mixedOrders = true) (sp : List Sp) (n : Nat) (hB : drawB l sp (fr.map (·.1)) n = true)
    (stab : ∀ i, i < n → ∀ v w w', (spAt sp i).V v w → Kp (othS sp i) w w' → (spAt sp i).V v w')
    (ops : ∀ i o, i < n → l[i]? = some o → ∀ vs w1, Kp (othS sp i) w w1 → factsOf sp vs w1 (spAt sp i).deps → WO P (stepQ N (idst l i) (spAt sp i).S (spAt sp i).V w1) N l [o] (depFr l fr vs (spAt sp i).deps) w1)
    (tail : ∀ vs w1, Kp (allS sp) w w1 → factsOf sp vs w1 (List.range n) → WO P Q N l (l.drop n) (depFr l fr vs (List.range n)) w1) : WC P Q N (.region id l.toArray true) fr w := by
  intro a ha
  simp only [drawB, Bool.and_eq_true, decide_eq_true_eq, List.all_eq_true, List.mem_range, Bool.or_eq_true] at hB
  obtain ⟨⟨⟨⟨hnl, hsp⟩, hops⟩, hsc⟩, hseq⟩ := hB
  refine wp_region_any hm ?_
  have main : ∀ f listed a w1, (List.range n).countP (fun i => !listed.getD i false) = f → DInv N n l sp fr w listed a w1 → wpAny P .any l.toArray Q (f + (l.length - n)) listed a w1 := by
    intro f
    induction f with
    | zero =>
      intro listed a w1 hc inv
      have hall : ∀ i, i < n → listed.getD i false = true := fun i hi => by
        have := List.countP_eq_zero.1 hc i (List.mem_range.2 hi)
        simpa using this
      have hl : listed = Array.replicate n true ++ Array.replicate (l.length - n) false := by
        have hsz := inv.head.size
        refine getD_ext (by rw [hsz]; simp; omega) fun i hi => ?_
        rw [hsz] at hi
        have hi' : i < l.length := by simpa using hi
        by_cases hin : i < n
        · rw [hall i hin, Array.getD_eq_getD_getElem?, Array.getElem?_append_left (by simpa using hin)]
          simp [hin]
        · have h2 := inv.head.tail i (by omega) hi
          have h3 : listed.getD i false = false := getD_both h2
          rw [h3, Array.getD_eq_getD_getElem?, Array.getElem?_append_right (by simp; omega)]
          simp only [Array.size_replicate, Array.getElem?_replicate]
          split <;> rfl
      rw [← hl] at hseq
      obtain ⟨vs, hv⟩ := inv.vals
      obtain ⟨S, hk, hS⟩ := inv.kp
      have hM : M N (depFr l fr vs (List.range n)) a := depFr_look inv.fr _ fun j hj d hd => (hv j (List.mem_range.1 hj) (hall j (List.mem_range.1 hj))).1 d hd
      have ht := tail vs w1 (hk.sub fun g hg => by
        obtain ⟨i, hi, _, h⟩ := hS g hg
        exact mem_allS (by omega) g h) (factsOf_mk _ fun j hj => (hv j (List.mem_range.1 hj) (hall j (List.mem_range.1 hj))).2) a hM
      have hdl : (l.drop n).length = l.length - n := by simp
      have := wpAny_of_seq (P := P) (md := .any) (ops := l.toArray) (Q' := Q) (l.drop n) n listed a w1 (fun j => by simp [List.getElem?_drop]) (by rw [hdl]; exact hseq) ht
      rw [hdl] at this
      rw [Nat.zero_add]
      exact this
    | succ f ih =>
      intro listed a w1 hc inv
      have hex : ∃ i, i < n ∧ listed.getD i false = false ∧ ∀ j, j < i → listed.getD j false = true := by
        have h1 : ∃ i, i < n ∧ listed.getD i false = false := by
          have : 0 < (List.range n).countP (fun i => !listed.getD i false) := by omega
          obtain ⟨i, hi, hp⟩ := List.countP_pos_iff.1 this
          exact ⟨i, List.mem_range.1 hi, by simpa using hp⟩
        obtain ⟨i, hi, hp⟩ := h1
        have hmin : ∀ m, ∀ i, i < n → listed.getD i false = false → i ≤ m → ∃ i, i < n ∧ listed.getD i false = false ∧ ∀ j, j < i → listed.getD j false = true := by
          intro m
          induction m with
          | zero => intro i hi hp him; exact ⟨i, hi, hp, fun j hj => by omega⟩
          | succ m ihm =>
            intro i hi hp him
            by_cases hlt : ∃ j, j < i ∧ listed.getD j false = false
            · obtain ⟨j, hj, hpj⟩ := hlt
              exact ihm j (by omega) hpj (by omega)
            · exact ⟨i, hi, hp, fun j hj => by
                cases h : listed.getD j false with
                | true => rfl
                | false => exact absurd ⟨j, hj, h⟩ hlt⟩
        exact hmin i i hi hp (Nat.le_refl _)
      obtain ⟨m, hmn, hmu, hmall⟩ := hex
      have hsz := inv.head.size
      have hin : ∀ i, i < n → listed.getD i false = false → listed.getD i true = false := fun i hi h => getD_in (by rw [hsz]; simp; omega) h
      have hready : m ∈ Region.ready .any l.toArray listed := by
        have hml : m < l.length := by omega
        refine mem_ready.2 ⟨hin m hmn hmu, l[m], by simp [hml], fun e he hb => ?_⟩
        have h1 := (hops m hmn).1.1 e.on (by
          simp only [predsAt, List.getElem?_eq_getElem hml, binds', List.mem_map, List.mem_filter]
          exact ⟨e, ⟨by simpa using he, hb⟩, rfl⟩)
        exact hmall _ h1
      rw [show f + 1 + (l.length - n) = (f + (l.length - n)) + 1 by omega]
      refine ⟨fun h0 => (by rw [h0] at hready; cases hready), fun i hi => ?_⟩
      have hil : i < l.length := by
        obtain ⟨_, o, ho, _⟩ := mem_ready.1 hi
        simpa using (Array.getElem?_eq_some_iff.1 ho).1
      have hin' : i < n := by
        rcases Nat.lt_or_ge i n with h | h
        · exact h
        · rcases hsc with hsc | hsc
          · omega
          · exact absurd hi (tail_waits hsc.1 hsc.2 (by simp; omega) inv.head _ m rfl hmn (hin m hmn hmu) i h)
      obtain ⟨hun, o, ho, hafter⟩ := mem_ready.1 hi
      have ho' : l[i]? = some o := by simpa using ho
      have hun' : listed.getD i false = false := getD_both hun
      obtain ⟨vs, hv⟩ := inv.vals
      obtain ⟨S, hk, hS⟩ := inv.kp
      -- what it leans on has come
      have hpre : ∀ k ∈ predsAt l i, listed.getD k false = true := fun k hk => by
        simp only [predsAt, ho', binds', List.mem_map, List.mem_filter] at hk
        obtain ⟨e, ⟨he, hb⟩, rfl⟩ := hk
        exact hafter e (by simpa using he) hb
      have hdeps : ∀ j ∈ (spAt sp i).deps, j < i ∧ listed.getD j false = true := fun j hj => by
        have h1 := (hops i hin').1.2 j hj
        refine ⟨h1.1, ?_⟩
        rcases h1.2 with h2 | h2
        · exact hpre j (by simpa using h2)
        · obtain ⟨k, hk, hk2⟩ := List.any_eq_true.1 h2
          have hki : k < i := (hops i hin').1.1 k hk
          exact inv.clo k (by omega) (hpre k hk) j (by simpa using hk2)
      have hko : Kp (othS sp i) w w1 := hk.sub fun g hg => by
        obtain ⟨j, hj, hlj, hgj⟩ := hS g hg
        exact mem_othS (by omega) (fun e => by subst e; rw [hun'] at hlj; cases hlj) g hgj
      have hM : M N (depFr l fr vs (spAt sp i).deps) a := depFr_look inv.fr _ fun j hj d hd => (hv j (by have := hdeps j hj; omega) (hdeps j hj).2).1 d hd
      have hf : factsOf sp vs w1 (spAt sp i).deps := factsOf_mk _ fun j hj => (hv j (by have := hdeps j hj; omega) (hdeps j hj).2).2
      have hw := ops i o hin' ho' vs w1 hko hf a hM
      have step : ∀ v w2, stepQ N (idst l i) (spAt sp i).S (spAt sp i).V w1 .normal (a.put o.dst v) w2 → wpAny P .any l.toArray Q (f + (l.length - n)) (listed.setIfInBounds i true) (a.put o.dst v) w2 := by
        intro v w2 ⟨_, _, u, hu, hV, hk2⟩
        have hdst : idst l i = o.dst := by rw [idst_eq, ho']; rfl
        have hset : ∀ j, (listed.setIfInBounds i true).getD j false = if j = i then true else listed.getD j false := fun j => by
          by_cases hj : j = i
          · subst hj; simp [Array.getD, hsz, hil]
          · rw [getD_set_ne false (Ne.symm hj), if_neg hj]
        refine ih _ _ _ ?_ ⟨inv.head.set hi hin', ?_, ?_, ?_, ?_⟩
        · have := countP_set (n := n) (i := i) (p := fun j => !listed.getD j false) (q := fun j => !(listed.setIfInBounds i true).getD j false) hin' (by simp [hun']) (by simp [hset]) (fun j hj => by simp [hset, hj])
          omega
        · intro j hj hlj d hd
          rw [hset]
          by_cases hdi : d = i
          · simp [hdi]
          · rw [if_neg hdi]
            by_cases hji : j = i
            · subst hji; exact (hdeps d hd).2
            · rw [hset, if_neg hji] at hlj
              exact inv.clo j hj hlj d hd
        · -- what stood in the frame
          obtain ⟨f1, f2, f3⟩ := inv.fr
          cases hd : o.dst with
          | none => exact ⟨f1, f2, f3⟩
          | some d =>
            have hfree := (hops i hin').2
            rw [hdst, hd] at hfree
            simp only [Bool.and_eq_true, Bool.not_eq_true', List.all_eq_true, List.mem_range, Bool.or_eq_true, beq_iff_eq, bne_iff_ne] at hfree
            refine ⟨f1, by simp [Act.put, f2], fun k u' hk' => ?_⟩
            obtain ⟨hkn, hkv⟩ := f3 k u' hk'
            refine ⟨hkn, ?_⟩
            have hne : d ≠ k := by
              rintro rfl
              have : ∀ (fr : Fr) (d : Nat) (v : Value), look fr d = some v → d ∈ fr.map (·.1) := by
                intro fr
                induction fr with
                | nil => intro d v h; cases h
                | cons x r ihr =>
                  intro d v h
                  obtain ⟨x1, x2⟩ := x
                  rw [look_cons] at h
                  by_cases hx : x1 = d
                  · simp [hx]
                  · rw [if_neg hx] at h
                    exact List.mem_cons_of_mem _ (ihr d v h)
              have h3 := this fr d u' hk'
              have h4 := hfree.1
              simp only [List.contains_eq_mem, decide_eq_false_iff_not] at h4
              exact h4 h3
            rw [← hkv]
            simp [Act.put, Array.getD, f2, hkn, hne]
        · refine ⟨fun j => if j = i then u else vs j, fun j hj hlj => ?_⟩
          by_cases hji : j = i
          · subst hji
            simp only
            exact ⟨hu, hV⟩
          · simp only [if_neg hji]
            rw [hset, if_neg hji] at hlj
            obtain ⟨h1, h2⟩ := hv j hj hlj
            refine ⟨fun d hd => ?_, stab j hj _ _ _ h2 (hk2.sub (mem_othS (by omega) (Ne.symm hji)))⟩
            obtain ⟨hdN, hdv⟩ := h1 d hd
            refine ⟨hdN, ?_⟩
            cases hdo : o.dst with
            | none => exact hdv
            | some d' =>
              have hfree := (hops i hin').2
              rw [hdst, hdo] at hfree
              simp only [Bool.and_eq_true, Bool.not_eq_true', List.all_eq_true, List.mem_range, Bool.or_eq_true, beq_iff_eq, bne_iff_ne] at hfree
              have h5 := (hfree.2 j hj).resolve_left hji
              rw [hd] at h5
              have hne : d' ≠ d := fun e => h5 (by rw [e])
              rw [← hdv]
              by_cases hds : d < a.tmps.size <;> simp [Act.put, Array.getD, hds, hne]
        · refine ⟨S ++ (spAt sp i).S, hk.trans hk2, fun g hg => ?_⟩
          rcases List.mem_append.1 hg with hg | hg
          · obtain ⟨j, hj, hlj, hgj⟩ := hS g hg
            refine ⟨j, hj, ?_, hgj⟩
            rw [hset]; split
            · rfl
            · exact hlj
          · exact ⟨i, hin', by rw [hset, if_pos rfl], hg⟩
      unfold wpOp
      simp only [ho]
      simp only [wpList] at hw
      by_cases hwant : Region.wanted o (yielded l.toArray a.tmps) = true
      · rw [if_pos hwant] at hw ⊢
        rcases hw with hw | ⟨_, a', w', h', _⟩
        · refine .inl ?_
          unfold Oper.wp at hw ⊢
          refine upon_put hw step (fun d w2 h => ?_) (fun e a w he h => he h.1)
          have := h.2.1
          cases hd : o.dst <;> rw [hd] at this <;> simp [Act.put] at this
        · cases h'
      · rw [if_neg hwant] at hw ⊢
        exact step undef w1 hw
  have hcount : (List.range n).countP (fun i => !(Array.replicate l.toArray.size false).getD i false) = n := by
    rw [List.countP_eq_length.2 (fun i _ => by rw [getD_replicate_false]; rfl), List.length_range]
  have := main n (Array.replicate l.toArray.size false) a { w with drawn := w.drawn + 1 } hcount
    ⟨⟨by simp, fun j oj _ hl => (by rw [getD_replicate_false] at hl; cases hl), fun t _ ht => getD_in (by simpa using ht) (getD_replicate_false _ _)⟩,
     fun i _ hl => (by rw [getD_replicate_false] at hl; cases hl), ha, ⟨fun _ => undef, fun i _ hl => (by rw [getD_replicate_false] at hl; cases hl)⟩,
     ⟨[], (Kp.refl w).drew, fun g hg => by cases hg⟩⟩
  rw [show n + (l.length - n) = l.toArray.size by simp; omega] at this
  exact this
/-- The same, operation by operation. -/
def OpsAll (P : Program) (N : Nat) (l : List Oper) (sp : List Sp) (fr : Fr) (w : World) : Nat → List Oper → Prop
  | _, [] => True
  | i, o :: r => (∀ vs w1, Kp (othS sp i) w w1 → factsOf sp vs w1 (spAt sp i).deps → WO P (stepQ N (idst l i) (spAt sp i).S (spAt sp i).V w1) N l [o] (depFr l fr vs (spAt sp i).deps) w1) ∧ OpsAll P N l sp fr w (i + 1) r
def StabAll (sp : List Sp) : Nat → List Sp → Prop
  | _, [] => True
  | i, s :: r => (∀ v w w', s.V v w → Kp (othS sp i) w w' → s.V v w') ∧ StabAll sp (i + 1) r
theorem OpsAll.at_ : ∀ {r : List Oper} {k : Nat}, OpsAll P N l sp fr w k r → ∀ j o, r[j]? = some o → ∀ vs w1, Kp (othS sp (k + j)) w w1 → factsOf sp vs w1 (spAt sp (k + j)).deps →
    WO P (stepQ N (idst l (k + j)) (spAt sp (k + j)).S (spAt sp (k + j)).V w1) N l [o] (depFr l fr vs (spAt sp (k + j)).deps) w1
  | [], _, _, j, o, ho => by simp at ho
  | x :: r, k, h, 0, o, ho => by
    simp at ho; subst ho
    exact h.1
  | x :: r, k, h, j + 1, o, ho => by
    have := h.2.at_ j o (by simpa using ho)
    rwa [show k + 1 + j = k + (j + 1) by omega] at this
theorem StabAll.at_ : ∀ {r : List Sp} {k : Nat}, StabAll sp k r → ∀ j, j < r.length → ∀ v w w', (spAt r j).V v w → Kp (othS sp (k + j)) w w' → (spAt r j).V v w'
  | [], _, _, j, hj => by simp at hj
  | s :: r, k, h, 0, _ => h.1
  | s :: r, k, h, j + 1, hj => by
    have := h.2.at_ j (by simpa using hj)
    rwa [show k + 1 + j = k + (j + 1) by omega] at this
theorem WC.draw' (hm : P.follows .mixedOrders = true) (sp : List Sp) (n : Nat) (hB : drawB l sp (fr.map (·.1)) n = true) (stab : StabAll sp 0 sp) (ops : OpsAll P N l sp fr w 0 (l.take n))
    (tail : ∀ vs w1, Kp (allS sp) w w1 → factsOf sp vs w1 (List.range n) → WO P Q N l (l.drop n) (depFr l fr vs (List.range n)) w1) : WC P Q N (.region id l.toArray true) fr w := by
  have hB' := hB
  simp only [drawB, Bool.and_eq_true, decide_eq_true_eq] at hB'
  have hsp : sp.length = n := hB'.1.1.1.2
  refine WC.draw hm sp n hB (fun i hi => ?_) (fun i o hi ho => ?_) tail
  · have := stab.at_ i (by omega)
    rwa [Nat.zero_add] at this
  · have := ops.at_ i o (by rw [List.getElem?_take, if_pos hi]; exact ho)
    rwa [Nat.zero_add] at this
end

end Go.Proofs.Ytfmlgeeogbhppaa
