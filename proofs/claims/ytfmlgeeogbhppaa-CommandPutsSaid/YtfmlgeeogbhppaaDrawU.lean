/- Regions that draw their order, with facts that last till one operation has used them up. Conditions: each lemma's own. -/
import Derived.Test.YtfmlgeeogbhppaaNum
namespace Go.Proofs.Ytfmlgeeogbhppaa
open Go.RowKit

/-- An operation: what it leans on, whether it writes (the row S0, or what is new since the region began), what is known of what it yields. -/
structure Sq where
  deps : List Nat
  wr : Bool
  V : Value → World → Prop
def Sq.ex (deps : List Nat) (c : Value) : Sq := ⟨deps, false, fun u _ => u = c⟩
def sqAt (sp : List Sq) (i : Nat) : Sq := sp.getD i ⟨[], false, fun _ _ => True⟩
/-- What was there ahead of the region stays, but S0. -/
structure KpE (S : List Nat) (SZ : Nat) (w w' : World) : Prop where
  os : w'.os = w.os
  tape : w'.tape = w.tape
  output : w'.output = w.output
  size : w.heap.size ≤ w'.heap.size
  block : ∀ b, b < SZ → b < w.heap.size → b ∉ S → w'.heap[b]? = w.heap[b]?
def relQ (S : List Nat) (SZ : Nat) : Bool → World → World → Prop
  | false => Kp []
  | true => KpE S SZ
theorem KpE.of {T S : List Nat} {SZ : Nat} {w w' : World} (h : Kp T w w') (hT : ∀ g ∈ T, g ∈ S ∨ SZ ≤ g) : KpE S SZ w w' :=
  ⟨h.os, h.tape, h.output, h.size, fun b h1 h2 h3 => h.block b h2 fun hm => (hT b hm).elim h3 (fun h => by omega)⟩
theorem KpE.kp {S : List Nat} {w w' : World} (h : KpE S w.heap.size w w') : Kp S w w' := ⟨h.os, h.tape, h.output, h.size, fun b h1 h2 => h.block b h1 h1 h2⟩
theorem relQ_up {S : List Nat} {SZ : Nat} {b b' : Bool} {w w' : World} (h : relQ S SZ b w w') (hb : b = true → b' = true) : relQ S SZ b' w w' := by
  cases b with
  | true => rw [hb rfl]; exact h
  | false =>
    cases b' with
    | false => exact h
    | true => exact KpE.of h (by simp)
theorem relQ_trans {S : List Nat} {SZ : Nat} {b b' : Bool} {u v w : World} (h : relQ S SZ b u v) (k : relQ S SZ b' v w) : relQ S SZ (b || b') u w := by
  have h1 : relQ S SZ (b || b') u v := relQ_up h (fun e => by rw [e]; rfl)
  have h2 : relQ S SZ (b || b') v w := relQ_up k (fun e => by rw [e, Bool.or_true])
  cases hb : b || b' with
  | false => rw [hb] at h1 h2; exact (h1.trans h2).sub (by simp)
  | true =>
    rw [hb] at h1 h2
    exact ⟨h2.os.trans h1.os, h2.tape.trans h1.tape, h2.output.trans h1.output, Nat.le_trans h1.size h2.size, fun b a1 a2 a3 => (h2.block b a1 (Nat.lt_of_lt_of_le a2 h1.size) a3).trans (h1.block b a1 a2 a3)⟩
theorem relQ_drew {S : List Nat} {SZ : Nat} {w : World} : relQ S SZ false w { w with drawn := w.drawn + 1 } := (Kp.refl w).drew
def oth (sp : List Sq) (q : Nat → Bool) : Bool := (List.range sp.length).any fun j => q j && (sqAt sp j).wr
def useOf (us : List (Nat × Nat)) (i : Nat) : Option Nat := us.lookup i
/-- Does another one write while i's fact is wanted (u uses it up)? -/
def othU (sp : List Sq) (i : Nat) (u : Option Nat) : Bool := oth sp fun j => !(Nat.beq j i) && (match u with | some k => !(Nat.beq j k) && !((sqAt sp j).deps.contains k) | none => true) && !((sqAt sp i).deps.contains j)
/-- Does one write that need not come behind i? -/
def othD (sp : List Sq) (i : Nat) : Bool := oth sp fun j => !(Nat.beq j i) && !((sqAt sp j).deps.contains i)
theorem oth_t {sp : List Sq} {q : Nat → Bool} {i : Nat} (hi : i < sp.length) (hq : q i = true) (hw : (sqAt sp i).wr = true) : oth sp q = true :=
  List.any_eq_true.2 ⟨i, List.mem_range.2 hi, by rw [hq, hw]; rfl⟩
def useB (sp : List Sq) (us : List (Nat × Nat)) (n : Nat) : Bool := (List.range n).all fun i => (sqAt sp i).deps.all fun j => match useOf us j with | some u => Nat.beq u i | none => true
/-- i's fact is used up. -/
def deadQ (us : List (Nat × Nat)) (listed : Array Bool) (i : Nat) : Bool := match useOf us i with | some u => listed.getD u false | none => false
theorem othU_t {sp : List Sq} {i j : Nat} {u : Option Nat} (hi : i < sp.length) (hne : i ≠ j) (hu : u ≠ some i) (hk : ∀ k, u = some k → k ∉ (sqAt sp i).deps) (hd : i ∉ (sqAt sp j).deps) (hw : (sqAt sp i).wr = true) : othU sp j u = true := by
  refine oth_t hi ?_ hw
  have h1 : Nat.beq i j = false := by rw [← Bool.not_eq_true, Nat.beq_eq]; exact hne
  cases u with
  | none => simp [h1, hd]
  | some k =>
    have h2 : Nat.beq i k = false := by rw [← Bool.not_eq_true, Nat.beq_eq]; exact fun e => hu (by rw [e])
    simp [h1, h2, hd, hk k rfl]
theorem othD_t {sp : List Sq} {i j : Nat} (hi : i < sp.length) (hne : i ≠ j) (hd : j ∉ (sqAt sp i).deps) (hw : (sqAt sp i).wr = true) : othD sp j = true := by
  refine oth_t hi ?_ hw
  have h1 : Nat.beq i j = false := by rw [← Bool.not_eq_true, Nat.beq_eq]; exact hne
  simp [h1, hd]
def factsQ (sp : List Sq) (vs : Nat → Value) (w : World) : List Nat → Prop
  | [] => True
  | j :: r => (sqAt sp j).V (vs j) w ∧ factsQ sp vs w r
def factsT (sp : List Sq) (us : List (Nat × Nat)) (vs : Nat → Value) (w : World) : List Nat → Prop
  | [] => True
  | j :: r => (match useOf us j with | some _ => True | none => (sqAt sp j).V (vs j) w) ∧ factsT sp us vs w r
def stepU (N : Nat) (S0 : List Nat) (SZ : Nat) (d? : Option Nat) (b : Bool) (V : Value → World → Prop) (w : World) : Exit → Act → World → Prop :=
  fun e a' w' => e = .normal ∧ a'.defers = [] ∧ ∃ v, (∀ d, d? = some d → d < N ∧ a'.tmps.getD d undef = v) ∧ V v w' ∧ relQ S0 SZ b w w'
theorem WX.stepDoneU {N SZ d : Nat} {S0 : List Nat} {b : Bool} {V : Value → World → Prop} {w w' : World} {fr : Fr} {v : Value} (h : look fr d = some v) (hV : V v w') (hk : relQ S0 SZ b w w') : WX (stepU N S0 SZ (some d) b V w) N .normal fr w' :=
  fun _ ha => ⟨rfl, ha.1, v, fun d' hd => by cases hd; exact ha.2.2 _ _ h, hV, hk⟩
def drawBU (l : List Oper) (sp : List Sq) (slots : List Nat) (n : Nat) : Bool :=
  decide (n ≤ l.length) && decide (sp.length = n) &&
  ((List.range n).all fun i => (predsAt l i).all (fun j => decide (j < i)) &&
    (sqAt sp i).deps.all (fun j => decide (j < i) && ((predsAt l i).contains j || (predsAt l i).any (fun k => (sqAt sp k).deps.contains j))) &&
    (match idst l i with
     | some d => !slots.contains d && (List.range n).all (fun j => j == i || idst l j != some d)
     | none => true)) &&
  ((decide (n = l.length)) || (Region.sinkB .any l.toArray n && Region.chainB .any l.toArray n)) &&
  Region.seqB .any l.toArray (l.length - n) n ((Array.replicate n true) ++ (Array.replicate (l.length - n) false))
section
variable {P : Program} {Q : Exit → Act → World → Prop} {N n id : Nat} {l : List Oper} {sp : List Sq} {fr : Fr} {w : World} {us : List (Nat × Nat)} {S0 : List Nat} {SZ : Nat}
structure DInvU (N n : Nat) (l : List Oper) (sp : List Sq) (us : List (Nat × Nat)) (S0 : List Nat) (SZ : Nat) (fr : Fr) (w0 : World) (listed : Array Bool) (a : Act) (w : World) : Prop where
  head : HeadInv .any l.toArray n listed
  clo : ∀ i, i < n → listed.getD i false = true → ∀ j ∈ (sqAt sp i).deps, listed.getD j false = true
  fr : M N fr a
  vals : ∃ vs : Nat → Value, ∀ i, i < n → listed.getD i false = true → (∀ d, idst l i = some d → d < N ∧ a.tmps.getD d undef = vs i) ∧ (deadQ us listed i = false → (sqAt sp i).V (vs i) w)
  kp : ∃ b, relQ S0 SZ b w0 w ∧ (b = true → ∃ i, i < n ∧ listed.getD i false = true ∧ (sqAt sp i).wr = true)
theorem factsT_mk {vs : Nat → Value} {w : World} : ∀ (ds : List Nat), (∀ j ∈ ds, useOf us j = none → (sqAt sp j).V (vs j) w) → factsT sp us vs w ds
  | [], _ => trivial
  | j :: r, h => ⟨by cases hu : useOf us j with | some u => trivial | none => exact h j (by simp) hu, factsT_mk r fun j hj => h j (List.mem_cons_of_mem _ hj)⟩
theorem factsQ_mk {vs : Nat → Value} {w : World} : ∀ (ds : List Nat), (∀ j ∈ ds, (sqAt sp j).V (vs j) w) → factsQ sp vs w ds
  | [], _ => trivial
  | j :: r, h => ⟨h j (by simp), factsQ_mk r fun j hj => h j (List.mem_cons_of_mem _ hj)⟩
theorem WC.drawU (S0 : List Nat) (SZ : Nat) (us : List (Nat × Nat)) (hm : P.follows .mixedOrders = true) (sp : List Sq) (n : Nat) (hB : drawBU l sp (fr.map (·.1)) n = true) (hU : useB sp us n = true)
    (stab : ∀ i, i < n → ∀ v w w', (sqAt sp i).V v w → relQ S0 SZ (othU sp i (useOf us i)) w w' → (sqAt sp i).V v w')
    (ops : ∀ i o, i < n → l[i]? = some o → ∀ vs w1, relQ S0 SZ (othD sp i) w w1 → factsQ sp vs w1 (sqAt sp i).deps → WO P (stepU N S0 SZ (idst l i) (sqAt sp i).wr (sqAt sp i).V w1) N l [o] (depFr l fr vs (sqAt sp i).deps) w1)
    (tail : ∀ vs w1, relQ S0 SZ (oth sp fun _ => true) w w1 → factsT sp us vs w1 (List.range n) → WO P Q N l (l.drop n) (depFr l fr vs (List.range n)) w1) : WC P Q N (.region id l.toArray true) fr w := by
  intro a ha
  have hU' : ∀ i, i < n → ∀ j ∈ (sqAt sp i).deps, ∀ u, useOf us j = some u → u = i := by
    intro i hi j hj u hu
    simp only [useB, List.all_eq_true, List.mem_range] at hU
    have := hU i hi j hj
    rw [hu] at this
    simpa using this
  simp only [drawBU, Bool.and_eq_true, decide_eq_true_eq, List.all_eq_true, List.mem_range, Bool.or_eq_true] at hB
  obtain ⟨⟨⟨⟨hnl, hsp⟩, hops⟩, hsc⟩, hseq⟩ := hB
  refine wp_region_any hm ?_
  have main : ∀ f listed a w1, (List.range n).countP (fun i => !listed.getD i false) = f → DInvU N n l sp us S0 SZ fr w listed a w1 → wpAny P .any l.toArray Q (f + (l.length - n)) listed a w1 := by
    intro f
    induction f with
    | zero =>
      intro listed a w1 hc inv
      have hall : ∀ i, i < n → listed.getD i false = true := fun i hi => by
        have := List.countP_eq_zero.1 hc i (List.mem_range.2 hi)
        simpa using this
      have hl : listed = Array.replicate n true ++ Array.replicate (l.length - n) false := by
        have hsz := inv.head.size
        refine getD_ext (by rw [hsz]; simp; omega) fun i hi => ?_
        rw [hsz] at hi
        have hi' : i < l.length := by simpa using hi
        by_cases hin : i < n
        · rw [hall i hin, Array.getD_eq_getD_getElem?, Array.getElem?_append_left (by simpa using hin)]
          simp [hin]
        · have h2 := inv.head.tail i (by omega) hi
          have h3 : listed.getD i false = false := getD_both h2
          rw [h3, Array.getD_eq_getD_getElem?, Array.getElem?_append_right (by simp; omega)]
          simp only [Array.size_replicate, Array.getElem?_replicate]
          split <;> rfl
      rw [← hl] at hseq
      obtain ⟨vs, hv⟩ := inv.vals
      obtain ⟨b0, hk, hS⟩ := inv.kp
      have hM : M N (depFr l fr vs (List.range n)) a := depFr_look inv.fr _ fun j hj d hd => (hv j (List.mem_range.1 hj) (hall j (List.mem_range.1 hj))).1 d hd
      have ht := tail vs w1 (relQ_up hk fun hb => by
        obtain ⟨i, hi, _, h⟩ := hS hb
        exact oth_t (by omega) rfl h) (factsT_mk _ fun j hj hu => (hv j (List.mem_range.1 hj) (hall j (List.mem_range.1 hj))).2 (by simp [deadQ, hu])) a hM
      have hdl : (l.drop n).length = l.length - n := by simp
      have := wpAny_of_seq (P := P) (md := .any) (ops := l.toArray) (Q' := Q) (l.drop n) n listed a w1 (fun j => by simp [List.getElem?_drop]) (by rw [hdl]; exact hseq) ht
      rw [hdl] at this
      rw [Nat.zero_add]
      exact this
    | succ f ih =>
      intro listed a w1 hc inv
      have hex : ∃ i, i < n ∧ listed.getD i false = false ∧ ∀ j, j < i → listed.getD j false = true := by
        have h1 : ∃ i, i < n ∧ listed.getD i false = false := by
          have : 0 < (List.range n).countP (fun i => !listed.getD i false) := by omega
          obtain ⟨i, hi, hp⟩ := List.countP_pos_iff.1 this
          exact ⟨i, List.mem_range.1 hi, by simpa using hp⟩
        obtain ⟨i, hi, hp⟩ := h1
        have hmin : ∀ m, ∀ i, i < n → listed.getD i false = false → i ≤ m → ∃ i, i < n ∧ listed.getD i false = false ∧ ∀ j, j < i → listed.getD j false = true := by
          intro m
          induction m with
          | zero => intro i hi hp him; exact ⟨i, hi, hp, fun j hj => by omega⟩
          | succ m ihm =>
            intro i hi hp him
            by_cases hlt : ∃ j, j < i ∧ listed.getD j false = false
            · obtain ⟨j, hj, hpj⟩ := hlt
              exact ihm j (by omega) hpj (by omega)
            · exact ⟨i, hi, hp, fun j hj => by
                cases h : listed.getD j false with
                | true => rfl
                | false => exact absurd ⟨j, hj, h⟩ hlt⟩
        exact hmin i i hi hp (Nat.le_refl _)
      obtain ⟨m, hmn, hmu, hmall⟩ := hex
      have hsz := inv.head.size
      have hin : ∀ i, i < n → listed.getD i false = false → listed.getD i true = false := fun i hi h => getD_in (by rw [hsz]; simp; omega) h
      have hready : m ∈ Region.ready .any l.toArray listed := by
        have hml : m < l.length := by omega
        refine mem_ready.2 ⟨hin m hmn hmu, l[m], by simp [hml], fun e he hb => ?_⟩
        have h1 := (hops m hmn).1.1 e.on (by
          simp only [predsAt, List.getElem?_eq_getElem hml, binds', List.mem_map, List.mem_filter]
          exact ⟨e, ⟨by simpa using he, hb⟩, rfl⟩)
        exact hmall _ h1
      rw [show f + 1 + (l.length - n) = (f + (l.length - n)) + 1 by omega]
      refine ⟨fun h0 => (by rw [h0] at hready; cases hready), fun i hi => ?_⟩
      have hil : i < l.length := by
        obtain ⟨_, o, ho, _⟩ := mem_ready.1 hi
        simpa using (Array.getElem?_eq_some_iff.1 ho).1
      have hin' : i < n := by
        rcases Nat.lt_or_ge i n with h | h
        · exact h
        · rcases hsc with hsc | hsc
          · omega
          · exact absurd hi (tail_waits hsc.1 hsc.2 (by simp; omega) inv.head _ m rfl hmn (hin m hmn hmu) i h)
      obtain ⟨hun, o, ho, hafter⟩ := mem_ready.1 hi
      have ho' : l[i]? = some o := by simpa using ho
      have hun' : listed.getD i false = false := getD_both hun
      obtain ⟨vs, hv⟩ := inv.vals
      obtain ⟨b0, hk, hS⟩ := inv.kp
      -- what it leans on has come
      have hpre : ∀ k ∈ predsAt l i, listed.getD k false = true := fun k hk => by
        simp only [predsAt, ho', binds', List.mem_map, List.mem_filter] at hk
        obtain ⟨e, ⟨he, hb⟩, rfl⟩ := hk
        exact hafter e (by simpa using he) hb
      have hdeps : ∀ j ∈ (sqAt sp i).deps, j < i ∧ listed.getD j false = true := fun j hj => by
        have h1 := (hops i hin').1.2 j hj
        refine ⟨h1.1, ?_⟩
        rcases h1.2 with h2 | h2
        · exact hpre j (by simpa using h2)
        · obtain ⟨k, hk, hk2⟩ := List.any_eq_true.1 h2
          have hki : k < i := (hops i hin').1.1 k hk
          exact inv.clo k (by omega) (hpre k hk) j (by simpa using hk2)
      have hko : relQ S0 SZ (othD sp i) w w1 := relQ_up hk fun hb => by
        obtain ⟨j, hj, hlj, hgj⟩ := hS hb
        exact othD_t (by omega) (fun e => by subst e; rw [hun'] at hlj; cases hlj) (fun hd => by have := inv.clo j hj hlj i hd; rw [hun'] at this; cases this) hgj
      have hM : M N (depFr l fr vs (sqAt sp i).deps) a := depFr_look inv.fr _ fun j hj d hd => (hv j (by have := hdeps j hj; omega) (hdeps j hj).2).1 d hd
      have hf : factsQ sp vs w1 (sqAt sp i).deps := factsQ_mk _ fun j hj => (hv j (by have := hdeps j hj; omega) (hdeps j hj).2).2 (by
        unfold deadQ
        cases hu : useOf us j with
        | none => rfl
        | some u => simp only; rw [hU' i hin' j hj u hu]; exact hun')
      have hw := ops i o hin' ho' vs w1 hko hf a hM
      have step : ∀ v w2, stepU N S0 SZ (idst l i) (sqAt sp i).wr (sqAt sp i).V w1 .normal (a.put o.dst v) w2 → wpAny P .any l.toArray Q (f + (l.length - n)) (listed.setIfInBounds i true) (a.put o.dst v) w2 := by
        intro v w2 ⟨_, _, u, hu, hV, hk2⟩
        have hdst : idst l i = o.dst := by rw [idst_eq, ho']; rfl
        have hset : ∀ j, (listed.setIfInBounds i true).getD j false = if j = i then true else listed.getD j false := fun j => by
          by_cases hj : j = i
          · subst hj; simp [Array.getD, hsz, hil]
          · rw [getD_set_ne false (Ne.symm hj), if_neg hj]
        refine ih _ _ _ ?_ ⟨inv.head.set hi hin', ?_, ?_, ?_, ?_⟩
        · have := countP_set (n := n) (i := i) (p := fun j => !listed.getD j false) (q := fun j => !(listed.setIfInBounds i true).getD j false) hin' (by simp [hun']) (by simp [hset]) (fun j hj => by simp [hset, hj])
          omega
        · intro j hj hlj d hd
          rw [hset]
          by_cases hdi : d = i
          · simp [hdi]
          · rw [if_neg hdi]
            by_cases hji : j = i
            · subst hji; exact (hdeps d hd).2
            · rw [hset, if_neg hji] at hlj
              exact inv.clo j hj hlj d hd
        · -- what stood in the frame
          obtain ⟨f1, f2, f3⟩ := inv.fr
          cases hd : o.dst with
          | none => exact ⟨f1, f2, f3⟩
          | some d =>
            have hfree := (hops i hin').2
            rw [hdst, hd] at hfree
            simp only [Bool.and_eq_true, Bool.not_eq_true', List.all_eq_true, List.mem_range, Bool.or_eq_true, beq_iff_eq, bne_iff_ne] at hfree
            refine ⟨f1, by simp [Act.put, f2], fun k u' hk' => ?_⟩
            obtain ⟨hkn, hkv⟩ := f3 k u' hk'
            refine ⟨hkn, ?_⟩
            have hne : d ≠ k := by
              rintro rfl
              have : ∀ (fr : Fr) (d : Nat) (v : Value), look fr d = some v → d ∈ fr.map (·.1) := by
                intro fr
                induction fr with
                | nil => intro d v h; cases h
                | cons x r ihr =>
                  intro d v h
                  obtain ⟨x1, x2⟩ := x
                  rw [look_cons] at h
                  by_cases hx : x1 = d
                  · simp [hx]
                  · rw [if_neg hx] at h
                    exact List.mem_cons_of_mem _ (ihr d v h)
              have h3 := this fr d u' hk'
              have h4 := hfree.1
              simp only [List.contains_eq_mem, decide_eq_false_iff_not] at h4
              exact h4 h3
            rw [← hkv]
            simp [Act.put, Array.getD, f2, hkn, hne]
        · refine ⟨fun j => if j = i then u else vs j, fun j hj hlj => ?_⟩
          by_cases hji : j = i
          · subst hji
            simp only
            exact ⟨hu, fun _ => hV⟩
          · simp only [if_neg hji]
            rw [hset, if_neg hji] at hlj
            obtain ⟨h1, h2⟩ := hv j hj hlj
            refine ⟨fun d hd => ?_, fun hdead => ?_⟩
            rotate_left
            · have hne : useOf us j ≠ some i := fun e => by
                unfold deadQ at hdead; rw [e] at hdead; simp only at hdead; rw [hset, if_pos rfl] at hdead; cases hdead
              refine stab j hj _ _ _ (h2 ?_) (relQ_up hk2 fun hw2 => othU_t (by omega) (Ne.symm hji) hne (fun k hu hkd => by
                unfold deadQ at hdead; rw [hu] at hdead; simp only at hdead; rw [hset] at hdead
                split at hdead
                · cases hdead
                · rw [(hdeps k hkd).2] at hdead; cases hdead) (fun hd => by have := inv.clo j hj hlj i hd; rw [hun'] at this; cases this) hw2)
              unfold deadQ at hdead ⊢
              cases hu2 : useOf us j with
              | none => rfl
              | some u =>
                rw [hu2] at hdead; simp only at hdead ⊢
                rw [hset] at hdead
                split at hdead
                · cases hdead
                · exact hdead
            obtain ⟨hdN, hdv⟩ := h1 d hd
            refine ⟨hdN, ?_⟩
            cases hdo : o.dst with
            | none => exact hdv
            | some d' =>
              have hfree := (hops i hin').2
              rw [hdst, hdo] at hfree
              simp only [Bool.and_eq_true, Bool.not_eq_true', List.all_eq_true, List.mem_range, Bool.or_eq_true, beq_iff_eq, bne_iff_ne] at hfree
              have h5 := (hfree.2 j hj).resolve_left hji
              rw [hd] at h5
              have hne : d' ≠ d := fun e => h5 (by rw [e])
              rw [← hdv]
              by_cases hds : d < a.tmps.size <;> simp [Act.put, Array.getD, hds, hne]
        · refine ⟨b0 || (sqAt sp i).wr, relQ_trans hk hk2, fun hb => ?_⟩
          rcases (Bool.or_eq_true _ _).mp hb with hb | hb
          · obtain ⟨j, hj, hlj, hgj⟩ := hS hb
            refine ⟨j, hj, ?_, hgj⟩
            rw [hset]; split
            · rfl
            · exact hlj
          · exact ⟨i, hin', by rw [hset, if_pos rfl], hb⟩
      unfold wpOp
      simp only [ho]
      simp only [wpList] at hw
      by_cases hwant : Region.wanted o (yielded l.toArray a.tmps) = true
      · rw [if_pos hwant] at hw ⊢
        rcases hw with hw | ⟨_, a', w', h', _⟩
        · refine .inl ?_
          unfold Oper.wp at hw ⊢
          refine upon_put hw step (fun d w2 h => ?_) (fun e a w he h => he h.1)
          have := h.2.1
          cases hd : o.dst <;> rw [hd] at this <;> simp [Act.put] at this
        · cases h'
      · rw [if_neg hwant] at hw ⊢
        exact step undef w1 hw
  have hcount : (List.range n).countP (fun i => !(Array.replicate l.toArray.size false).getD i false) = n := by
    rw [List.countP_eq_length.2 (fun i _ => by rw [getD_replicate_false]; rfl), List.length_range]
  have := main n (Array.replicate l.toArray.size false) a { w with drawn := w.drawn + 1 } hcount
    ⟨⟨by simp, fun j oj _ hl => (by rw [getD_replicate_false] at hl; cases hl), fun t _ ht => getD_in (by simpa using ht) (getD_replicate_false _ _)⟩,
     fun i _ hl => (by rw [getD_replicate_false] at hl; cases hl), ha, ⟨fun _ => undef, fun i _ hl => (by rw [getD_replicate_false] at hl; cases hl)⟩,
     ⟨false, relQ_drew, fun hb => by cases hb⟩⟩
  rw [show n + (l.length - n) = l.toArray.size by simp; omega] at this
  exact this

def StabAllU (S0 : List Nat) (SZ : Nat) (sp : List Sq) (us : List (Nat × Nat)) : Nat → List Sq → Prop
  | _, [] => True
  | i, s :: r => (∀ v w w', s.V v w → relQ S0 SZ (othU sp i (useOf us i)) w w' → s.V v w') ∧ StabAllU S0 SZ sp us (i + 1) r
theorem StabAllU.at_ : ∀ {r : List Sq} {k : Nat}, StabAllU S0 SZ sp us k r → ∀ j, j < r.length → ∀ v w w', (sqAt r j).V v w → relQ S0 SZ (othU sp (k + j) (useOf us (k + j))) w w' → (sqAt r j).V v w'
  | [], _, _, j, hj => by simp at hj
  | s :: r, k, h, 0, _ => h.1
  | s :: r, k, h, j + 1, hj => by
    have := h.2.at_ j (by simpa using hj)
    rwa [show k + 1 + j = k + (j + 1) by omega] at this
def OpsAllU (P : Program) (N : Nat) (S0 : List Nat) (SZ : Nat) (l : List Oper) (sp : List Sq) (fr : Fr) (w : World) : Nat → List Oper → Prop
  | _, [] => True
  | i, o :: r => (∀ vs w1, relQ S0 SZ (othD sp i) w w1 → factsQ sp vs w1 (sqAt sp i).deps → WO P (stepU N S0 SZ (idst l i) (sqAt sp i).wr (sqAt sp i).V w1) N l [o] (depFr l fr vs (sqAt sp i).deps) w1) ∧ OpsAllU P N S0 SZ l sp fr w (i + 1) r
theorem OpsAllU.at_ : ∀ {r : List Oper} {k : Nat}, OpsAllU P N S0 SZ l sp fr w k r → ∀ j o, r[j]? = some o → ∀ vs w1, relQ S0 SZ (othD sp (k + j)) w w1 → factsQ sp vs w1 (sqAt sp (k + j)).deps →
    WO P (stepU N S0 SZ (idst l (k + j)) (sqAt sp (k + j)).wr (sqAt sp (k + j)).V w1) N l [o] (depFr l fr vs (sqAt sp (k + j)).deps) w1
  | [], _, _, j, o, ho => by simp at ho
  | x :: r, k, h, 0, o, ho => by
    simp at ho; subst ho
    exact h.1
  | x :: r, k, h, j + 1, o, ho => by
    have := h.2.at_ j o (by simpa using ho)
    rwa [show k + 1 + j = k + (j + 1) by omega] at this
theorem stabSl {α : Type} [Rp α] {xs : List α} {u : Value} {m L : Nat} {T : List Nat} {w w' : World} (h : ∃ (a : Option Addr) (c : Nat), u = .slice a m c ∧ Sl true L w.heap.size w (.slice a m c) xs) (k : Kp T w w') (hT : ∀ g ∈ T, g < L) : ∃ (a : Option Addr) (c : Nat), u = .slice a m c ∧ Sl true L w'.heap.size w' (.slice a m c) xs := by
  obtain ⟨a, c, e, h⟩ := h
  exact ⟨a, c, e, (sl_kp h k (Nat.le_refl _) (fun g hg => .inl (hT g hg))).mono (Nat.le_refl _) k.size⟩
theorem stabAc {α : Type} [Rp α] {xs : List α} {u : Value} {m lo lo2 : Nat} {o2 : Bool} {w w' : World} {R : Value → Prop} (h : ∃ (a : Option Addr) (c : Nat), u = .slice a m c ∧ Ac lo o2 lo2 w.heap.size w.heap.size w (.slice a m c) xs ∧ R (.slice a m c)) (k : Kp [] w w') : ∃ (a : Option Addr) (c : Nat), u = .slice a m c ∧ Ac lo o2 lo2 w'.heap.size w'.heap.size w' (.slice a m c) xs ∧ R (.slice a m c) := by
  obtain ⟨a, c, e, h, ho⟩ := h
  exact ⟨a, c, e, (ac_kp0 h k (Nat.le_refl _) (Nat.le_refl _)).mono (Nat.le_refl _) (Nat.le_refl _) k.size k.size, ho⟩
theorem WC.drawU' (S0 : List Nat) (SZ : Nat) (hm : P.follows .mixedOrders = true) (sp : List Sq) (us : List (Nat × Nat)) (n : Nat) (hB : drawBU l sp (fr.map (·.1)) n = true) (hU : useB sp us n = true) (stab : StabAllU S0 SZ sp us 0 sp) (ops : OpsAllU P N S0 SZ l sp fr w 0 (l.take n))
    (tail : ∀ vs w1, relQ S0 SZ (oth sp fun _ => true) w w1 → factsT sp us vs w1 (List.range n) → WO P Q N l (l.drop n) (depFr l fr vs (List.range n)) w1) : WC P Q N (.region id l.toArray true) fr w := by
  have hB' := hB
  simp only [drawBU, Bool.and_eq_true, decide_eq_true_eq] at hB'
  have hsp : sp.length = n := hB'.1.1.1.2
  refine WC.drawU S0 SZ us hm sp n hB hU (fun i hi => ?_) (fun i o hi ho => ?_) tail
  · have := stab.at_ i (by omega)
    rwa [Nat.zero_add] at this
  · have := ops.at_ i o (by rw [List.getElem?_take, if_pos hi]; exact ho)
    rwa [Nat.zero_add] at this
end

end Go.Proofs.Ytfmlgeeogbhppaa
