/- Contracts of functions, walked operation by operation. -/
import Derived.Test.YtfmlgeeogbhppaaD7
namespace Go.Proofs.Ytfmlgeeogbhppaa
open Go.RowKit

theorem putF_eq (n : Nat) : putF n = ((List.range (sizeF n)).map (putB n)).set (sizeF n - 1) (putB n (sizeF n - 1) &&& 127) := by unfold putF putTo; simp
theorem u8_small : ∀ m : Fin 128, (UInt8.ofNat m.val ||| 128) &&& 127 = UInt8.ofNat m.val := by decide
theorem u8_big : ∀ m : Fin 256, (UInt8.ofNat m.val ||| 128).toNat = m.val % 128 + 128 := by decide +kernel
theorem putF_small {n : Nat} (h : n < 128) : putF n = [UInt8.ofNat n] := by
  rw [putF_eq, sizeF_done h]
  have := u8_small ⟨n, h⟩
  simp only [putB, Nat.pow_zero, Nat.div_one, List.range_one, List.map_cons, List.map_nil, Nat.sub_self, List.set_cons_zero] at *
  rw [this]
theorem putB0 (n : Nat) : (putB n 0).toNat = n % 128 + 128 := by
  have e : UInt8.ofNat n = UInt8.ofNat (n % 256) := UInt8.toNat_inj.1 (by simp [UInt8.toNat_ofNat'])
  have := u8_big ⟨n % 256, Nat.mod_lt _ (by decide)⟩
  simp only [putB, Nat.pow_zero, Nat.div_one]
  rw [e, this]; simp only; omega
theorem putF_big {n : Nat} (h : ¬ n < 128) : putF n = putB n 0 :: putF (n / 128) := by
  have e : ∀ i, putB n (i + 1) = putB (n / 128) i := fun i => by unfold putB; rw [Nat.pow_succ, Nat.mul_comm, ← Nat.div_div_eq_div_mul]
  have hp := sizeF_pos (n / 128)
  obtain ⟨s, hs⟩ : ∃ s, sizeF (n / 128) = s + 1 := ⟨sizeF (n / 128) - 1, by omega⟩
  rw [putF_eq, putF_eq (n / 128), sizeF_step h, hs]
  simp only [Nat.add_sub_cancel]
  rw [List.range_succ_eq_map, List.map_cons, List.map_map, List.set_cons_succ, e s, show putB n ∘ Nat.succ = putB (n / 128) from funext e]
theorem ofNat_inj {n m : Nat} (hn : n < 128) (hm : m < 128) (h : UInt8.ofNat n = UInt8.ofNat m) : n = m := by
  have := congrArg UInt8.toNat h
  rw [UInt8.toNat_ofNat', UInt8.toNat_ofNat'] at this; omega
theorem putF_inj : ∀ (n m : Nat) {s t : List UInt8}, putF n ++ s = putF m ++ t → n = m ∧ s = t := by
  intro n
  induction n using Nat.strongRecOn with
  | _ n ih =>
    intro m s t h
    by_cases hn : n < 128
    · by_cases hm : m < 128
      · rw [putF_small hn, putF_small hm] at h
        simp only [List.cons_append, List.nil_append, List.cons.injEq] at h
        exact ⟨ofNat_inj hn hm h.1, h.2⟩
      · rw [putF_small hn, putF_big hm] at h
        simp only [List.cons_append, List.nil_append, List.cons.injEq] at h
        have := congrArg UInt8.toNat h.1
        rw [putB0, UInt8.toNat_ofNat'] at this; omega
    · by_cases hm : m < 128
      · rw [putF_big hn, putF_small hm] at h
        simp only [List.cons_append, List.nil_append, List.cons.injEq] at h
        have := congrArg UInt8.toNat h.1
        rw [putB0, UInt8.toNat_ofNat'] at this; omega
      · rw [putF_big hn, putF_big hm] at h
        simp only [List.cons_append, List.cons.injEq] at h
        have h1 := congrArg UInt8.toNat h.1
        rw [putB0, putB0] at h1
        obtain ⟨h2, h3⟩ := ih (n / 128) (by omega) (m / 128) h.2
        exact ⟨by omega, h3⟩
theorem putF_ne (n : Nat) : putF n ≠ [] := fun h => by have := congrArg List.length h; rw [putF_len] at this; have := sizeF_pos n; simp at *; omega
theorem alone_parts {f : Field} (h : aloneF f = true) : (1 ≤ f.num ∧ f.num ≤ 1000) ∧ ((f.wire = 0 ∧ f.b = []) ∨ (f.wire = 2 ∧ f.n.n = 0)) := by
  unfold aloneF at h
  rw [Bool.and_eq_true, Bool.and_eq_true, decide_eq_true_eq, decide_eq_true_eq] at h
  refine ⟨h.1, ?_⟩
  have h2 := h.2
  split at h2
  · rename_i hw
    rw [decide_eq_true_eq] at h2
    exact .inl ⟨hw, List.eq_nil_of_length_eq_zero (by omega)⟩
  · split at h2
    · rename_i hw
      rw [decide_eq_true_eq] at h2
      exact .inr ⟨hw, by omega⟩
    · cases h2
theorem alone_tag {f : Field} (h : aloneF f = true) : tagB f.num f.wire = putF ((8 * f.num) + f.wire).toNat := by
  obtain ⟨h1, h2⟩ := alone_parts h
  exact (tagB_yes (by omega)).symm
theorem fieldB_inj {f g : Field} (hf : aloneF f = true) (hg : aloneF g = true) {s t : List UInt8} (h : fieldB f ++ s = fieldB g ++ t) : f = g ∧ s = t := by
  have tf := alone_tag hf
  have tg := alone_tag hg
  obtain ⟨nf, wf⟩ := alone_parts hf
  obtain ⟨ng, wg⟩ := alone_parts hg
  cases f with | mk fn fw fv fb =>
  cases g with | mk gn gw gv gb =>
  cases fv with | mk fv =>
  cases gv with | mk gv =>
  simp only at tf tg nf wf ng wg
  unfold fieldB at h
  simp only [tf, tg] at h
  rcases wf with ⟨rfl, rfl⟩ | ⟨rfl, rfl⟩
  · rcases wg with ⟨rfl, rfl⟩ | ⟨rfl, rfl⟩
    · simp only [if_true, List.append_assoc] at h
      obtain ⟨h1, h2⟩ := putF_inj _ _ h
      obtain ⟨h3, h4⟩ := putF_inj _ _ h2
      have : fn = gn := by omega
      subst this; subst h3; exact ⟨rfl, h4⟩
    · simp only [if_true, show ¬ (2 : Int) = 0 by decide, if_false, List.append_assoc] at h
      obtain ⟨h1, _⟩ := putF_inj _ _ h
      omega
  · rcases wg with ⟨rfl, rfl⟩ | ⟨rfl, rfl⟩
    · simp only [if_true, show ¬ (2 : Int) = 0 by decide, if_false, List.append_assoc] at h
      obtain ⟨h1, _⟩ := putF_inj _ _ h
      omega
    · simp only [show ¬ (2 : Int) = 0 by decide, if_false, List.append_assoc] at h
      obtain ⟨h1, h2⟩ := putF_inj _ _ h
      obtain ⟨h3, h4⟩ := putF_inj _ _ h2
      obtain ⟨h5, h6⟩ := List.append_inj h4 h3
      have : fn = gn := by omega
      subst this; subst h5; exact ⟨rfl, h6⟩
theorem fieldB_ne {f : Field} (hf : aloneF f = true) : fieldB f ≠ [] := fun h => by
  have tf := alone_tag hf
  unfold fieldB at h
  split at h
  · exact putF_ne _ (by rw [← tf]; exact (List.append_eq_nil_iff.1 h).1)
  · exact putF_ne _ (by rw [← tf]; exact (List.append_eq_nil_iff.1 (List.append_eq_nil_iff.1 h).1).1)
theorem fields_inj : ∀ {l m : List Field}, (∀ x ∈ l, aloneF x = true) → (∀ x ∈ m, aloneF x = true) → (l.map fieldB).flatten = (m.map fieldB).flatten → l = m
  | [], [], _, _, _ => rfl
  | [], g :: m, _, hm, h => by
    simp only [List.map_nil, List.flatten_nil, List.map_cons, List.flatten_cons] at h
    exact absurd (List.append_eq_nil_iff.1 h.symm).1 (fieldB_ne (hm g (by simp)))
  | f :: l, [], hl, _, h => by
    simp only [List.map_nil, List.flatten_nil, List.map_cons, List.flatten_cons] at h
    exact absurd (List.append_eq_nil_iff.1 h).1 (fieldB_ne (hl f (by simp)))
  | f :: l, g :: m, hl, hm, h => by
    simp only [List.map_cons, List.flatten_cons] at h
    obtain ⟨h1, h2⟩ := fieldB_inj (hl f (by simp)) (hm g (by simp)) h
    rw [h1, fields_inj (fun x hx => hl x (List.mem_cons_of_mem _ hx)) (fun x hx => hm x (List.mem_cons_of_mem _ hx)) h2]
theorem chk_alone : ∀ {l : List Field} {p : Option Field}, chkT p l = 0 → ∀ x ∈ l, aloneF x = true
  | [], _, _, x, hx => by cases hx
  | f :: r, p, h, x, hx => by
    unfold chkT at h
    split at h
    · rename_i hs
      rcases List.mem_cons.1 hx with rfl | hx
      · unfold stepT at hs
        split at hs
        · cases hs
        · rename_i ha; simpa using ha
      · exact chk_alone h x hx
    · rename_i hs; exact absurd h hs
def above (i : Int) (l : List Field) : Prop := ∀ f ∈ l, i < f.num
theorem ab_app {i : Int} {l m : List Field} (h : above i l) (h2 : above i m) : above i (l ++ m) := fun f hf => (List.mem_append.1 hf).elim (h f) (h2 f)
theorem mem_nm {f : Field} {j x : Int} (h : f ∈ nmF j x) : f.num = j := by
  unfold nmF at h; split at h
  · cases h
  · rw [List.mem_singleton] at h; rw [h]
theorem mem_by {f : Field} {j : Int} {b : List UInt8} (h : f ∈ byF j b) : f.num = j := by
  unfold byF at h; split at h
  · rw [List.mem_singleton] at h; rw [h]
  · cases h
theorem ab_nm {i j x : Int} (h : i < j) : above i (nmF j x) := fun f hf => by rw [mem_nm hf]; exact h
theorem ab_by {i j : Int} {b : List UInt8} (h : i < j) : above i (byF j b) := fun f hf => by rw [mem_by hf]; exact h
theorem peel {i x y : Int} {X Y : List Field} (hx : 0 ≤ x) (hy : 0 ≤ y) (hX : above i X) (hY : above i Y) (h : nmF i x ++ X = nmF i y ++ Y) : x = y ∧ X = Y := by
  unfold nmF at h
  by_cases h1 : x = 0
  · by_cases h2 : y = 0
    · rw [if_pos h1, if_pos h2] at h; exact ⟨by omega, h⟩
    · rw [if_pos h1, if_neg h2, List.nil_append] at h
      have := hX ⟨i, 0, ⟨y.toNat⟩, []⟩ (by rw [h]; simp)
      simp at this
  · by_cases h2 : y = 0
    · rw [if_neg h1, if_pos h2, List.nil_append] at h
      have := hY ⟨i, 0, ⟨x.toNat⟩, []⟩ (by rw [← h]; simp)
      simp at this
    · rw [if_neg h1, if_neg h2] at h
      simp only [List.cons_append, List.nil_append, List.cons.injEq, Field.mk.injEq, U64.mk.injEq] at h
      exact ⟨by omega, h.2⟩
theorem peelB {i : Int} {p q : List UInt8} {X Y : List Field} (hX : above i X) (hY : above i Y) (h : byF i p ++ X = byF i q ++ Y) : p = q ∧ X = Y := by
  unfold byF at h
  by_cases h1 : 0 < ((p.length : Nat) : Int)
  · by_cases h2 : 0 < ((q.length : Nat) : Int)
    · rw [if_pos h1, if_pos h2] at h
      simp only [List.cons_append, List.nil_append, List.cons.injEq, Field.mk.injEq] at h
      exact ⟨h.1.2.2.2, h.2⟩
    · rw [if_pos h1, if_neg h2, List.nil_append] at h
      have := hY ⟨i, 2, ⟨0⟩, p⟩ (by rw [← h]; simp)
      simp at this
  · by_cases h2 : 0 < ((q.length : Nat) : Int)
    · rw [if_neg h1, if_pos h2, List.nil_append] at h
      have := hX ⟨i, 2, ⟨0⟩, q⟩ (by rw [h]; simp)
      simp at this
    · rw [if_neg h1, if_neg h2] at h
      exact ⟨by rw [List.eq_nil_of_length_eq_zero (l := p) (by omega), List.eq_nil_of_length_eq_zero (l := q) (by omega)], h⟩
def textT (c : Command) (v : Int) : List Field := if 3 ≤ v then byF 8 c.text.b else []
theorem fields_form (c : Command) (v : Int) : fieldsF c v = nmF 1 c.kind ++ (nmF 2 c.client ++ (nmF 3 c.seq ++ (nmF 4 c.set ++ (nmF 5 c.id ++ (nmF 6 c.n ++ (byF 7 (chunksB c.chunks) ++ textT c v)))))) := by
  unfold fieldsF fieldsN textT
  split <;> simp [List.append_assoc]
theorem ab_text {c : Command} {v i : Int} (h : i < 8) : above i (textT c v) := by
  unfold textT; split
  · exact ab_by h
  · exact fun f hf => by cases hf
theorem fields_num {c : Command} {v : Int} : ∀ f ∈ fieldsF c v, f.num ≤ 8 := by
  intro f hf
  rw [fields_form] at hf
  simp only [List.mem_append] at hf
  rcases hf with h | h | h | h | h | h | h | h
  · rw [mem_nm h]; decide
  · rw [mem_nm h]; decide
  · rw [mem_nm h]; decide
  · rw [mem_nm h]; decide
  · rw [mem_nm h]; decide
  · rw [mem_nm h]; decide
  · rw [mem_by h]; decide
  · unfold textT at h; split at h
    · rw [mem_by h]; decide
    · cases h
/-- What a command that may be laid down is. -/
structure CmdOk (c : Command) (v : Int) : Prop where
  nn : 0 ≤ c.kind ∧ 0 ≤ c.client ∧ 0 ≤ c.seq ∧ 0 ≤ c.set ∧ 0 ≤ c.id ∧ 0 ≤ c.n
  ch : c.chunks = [] ∨ rowF c.chunks = true
  tx : c.text.b = [] ∨ (3 ≤ v ∧ c.text.b.length ≤ 16)
theorem ok_for {c : Command} {v : Int} (h : forF c v = true) : CmdOk c v := by
  refine ⟨nn_for h, ?_, ?_⟩
  · unfold forF at h
    simp only [Bool.and_eq_true, Bool.or_eq_true, decide_eq_true_eq] at h
    exact h.1.2.imp (fun h => List.eq_nil_of_length_eq_zero (by omega)) id
  · unfold forF at h
    simp only [Bool.and_eq_true, Bool.or_eq_true, decide_eq_true_eq] at h
    exact h.2.imp (fun h => List.eq_nil_of_length_eq_zero (by omega)) (fun h => ⟨h.1, by omega⟩)
theorem ok_may {c : Command} {v : Int} (h : mayC c v = 0) : CmdOk c v := by
  refine ⟨nn_may h, ?_, ?_⟩
  · obtain ⟨_, _, _, hf⟩ := may_fits h
    unfold fitsF chF at hf
    simp only [Bool.and_eq_true] at hf
    have h1 := hf.1.1.1.1.1.2
    split at h1
    · exact .inr h1
    · rw [decide_eq_true_eq] at h1; exact .inl (List.eq_nil_of_length_eq_zero (by omega))
  · obtain ⟨_, hn, hl, hf⟩ := may_fits h
    unfold fitsF txF at hf
    simp only [Bool.and_eq_true] at hf
    have h1 := hf.1.1.1.1.2
    split at h1
    · rename_i hk
      rw [decide_eq_true_eq] at h1
      rw [hk] at hl
      have h3 : needF 11 = 3 := rfl
      exact .inr ⟨by omega, by omega⟩
    · rw [decide_eq_true_eq] at h1; rw [h1]; exact .inl rfl
theorem bad_ok {c : Command} {rest : List Field} {v : Int} (h : putBad c rest v = 0) : CmdOk c v := by
  unfold putBad at h
  split at h
  · cases h
  · split at h
    · rename_i h1 h2; exact absurd h h2.2
    · rename_i h1 h2
      cases hf : forF c v with
      | true => exact ok_for hf
      | false => exact ok_may (Decidable.byContradiction fun h3 => h2 ⟨hf, h3⟩)
theorem puts_inj : ∀ {l m : List Int}, (∀ x ∈ l, 0 < x) → (∀ x ∈ m, 0 < x) → putsF l = putsF m → l = m
  | [], [], _, _, _ => rfl
  | [], y :: m, _, _, h => by simp only [putsF, List.flatMap_nil, List.flatMap_cons] at h; exact absurd (List.append_eq_nil_iff.1 h.symm).1 (putF_ne _)
  | x :: l, [], _, _, h => by simp only [putsF, List.flatMap_nil, List.flatMap_cons] at h; exact absurd (List.append_eq_nil_iff.1 h).1 (putF_ne _)
  | x :: l, y :: m, hl, hm, h => by
    simp only [putsF, List.flatMap_cons] at h
    obtain ⟨h1, h2⟩ := putF_inj _ _ h
    have hx := hl x (by simp); have hy := hm y (by simp)
    rw [show x = y by omega, puts_inj (fun z hz => hl z (List.mem_cons_of_mem _ hz)) (fun z hz => hm z (List.mem_cons_of_mem _ hz)) h2]
theorem chunks_inj {l m : List Int} (hl : l = [] ∨ rowF l = true) (hm : m = [] ∨ rowF m = true) (h : chunksB l = chunksB m) : l = m := by
  have e0 : chunksB [] = [] := rfl
  have en : ∀ {l : List Int}, rowF l = true → chunksB l ≠ [] := fun {l} hr h0 => by
    have := row_len hr
    rw [chunksB, if_pos hr] at h0
    cases l with
    | nil => simp at this
    | cons x r => simp only [putsF, List.flatMap_cons] at h0; exact putF_ne _ (List.append_eq_nil_iff.1 h0).1
  rcases hl with rfl | hl
  · rcases hm with rfl | hm
    · rfl
    · exact absurd h.symm (en hm)
  · rcases hm with rfl | hm
    · exact absurd h (en hl)
    · rw [chunksB, chunksB, if_pos hl, if_pos hm] at h
      exact puts_inj (fun x hx => (row_le hl x hx).1) (fun x hx => (row_le hm x hx).1) h
theorem cmd_inj {a b : Command} {v : Int} (ha : CmdOk a v) (hb : CmdOk b v) (h : fieldsF a v = fieldsF b v) : a = b := by
  obtain ⟨n1, n2, n3, n4, n5, n6⟩ := ha.nn
  obtain ⟨m1, m2, m3, m4, m5, m6⟩ := hb.nn
  rw [fields_form, fields_form] at h
  have T : ∀ (c : Command) (i : Int), i < 7 → above i (byF 7 (chunksB c.chunks) ++ textT c v) := fun c i hi => ab_app (ab_by hi) (ab_text (by omega))
  have T6 : ∀ (c : Command) (i : Int), i < 6 → above i (nmF 6 c.n ++ (byF 7 (chunksB c.chunks) ++ textT c v)) := fun c i hi => ab_app (ab_nm hi) (T c i (by omega))
  have T5 : ∀ (c : Command) (i : Int), i < 5 → above i (nmF 5 c.id ++ (nmF 6 c.n ++ (byF 7 (chunksB c.chunks) ++ textT c v))) := fun c i hi => ab_app (ab_nm hi) (T6 c i (by omega))
  have T4 : ∀ (c : Command) (i : Int), i < 4 → above i (nmF 4 c.set ++ (nmF 5 c.id ++ (nmF 6 c.n ++ (byF 7 (chunksB c.chunks) ++ textT c v)))) := fun c i hi => ab_app (ab_nm hi) (T5 c i (by omega))
  have T3 : ∀ (c : Command) (i : Int), i < 3 → above i (nmF 3 c.seq ++ (nmF 4 c.set ++ (nmF 5 c.id ++ (nmF 6 c.n ++ (byF 7 (chunksB c.chunks) ++ textT c v))))) := fun c i hi => ab_app (ab_nm hi) (T4 c i (by omega))
  have T2 : ∀ (c : Command) (i : Int), i < 2 → above i (nmF 2 c.client ++ (nmF 3 c.seq ++ (nmF 4 c.set ++ (nmF 5 c.id ++ (nmF 6 c.n ++ (byF 7 (chunksB c.chunks) ++ textT c v)))))) := fun c i hi => ab_app (ab_nm hi) (T3 c i (by omega))
  obtain ⟨e1, h⟩ := peel n1 m1 (T2 a 1 (by decide)) (T2 b 1 (by decide)) h
  obtain ⟨e2, h⟩ := peel n2 m2 (T3 a 2 (by decide)) (T3 b 2 (by decide)) h
  obtain ⟨e3, h⟩ := peel n3 m3 (T4 a 3 (by decide)) (T4 b 3 (by decide)) h
  obtain ⟨e4, h⟩ := peel n4 m4 (T5 a 4 (by decide)) (T5 b 4 (by decide)) h
  obtain ⟨e5, h⟩ := peel n5 m5 (T6 a 5 (by decide)) (T6 b 5 (by decide)) h
  obtain ⟨e6, h⟩ := peel n6 m6 (T a 6 (by decide)) (T b 6 (by decide)) h
  obtain ⟨e7, h⟩ := peelB (ab_text (by decide)) (ab_text (by decide)) h
  have e8 : a.text.b = b.text.b := by
    unfold textT at h
    by_cases hv : 3 ≤ v
    · rw [if_pos hv, if_pos hv] at h
      have := peelB (i := 8) (p := a.text.b) (q := b.text.b) (X := []) (Y := []) (fun f hf => by cases hf) (fun f hf => by cases hf) (by rw [List.append_nil, List.append_nil]; exact h)
      exact this.1
    · have h1 := ha.tx.resolve_right (fun h => hv h.1)
      have h2 := hb.tx.resolve_right (fun h => hv h.1)
      rw [h1, h2]
  have e9 := chunks_inj ha.ch hb.ch e7
  cases a with | mk k1 k2 k3 k4 k5 k6 k7 k8 =>
  cases b with | mk l1 l2 l3 l4 l5 l6 l7 l8 =>
  cases k8; cases l8
  simp only at e1 e2 e3 e4 e5 e6 e8 e9
  subst e1; subst e2; subst e3; subst e4; subst e5; subst e6; subst e8; subst e9; rfl
theorem pE_parts {c : Command} {rest : List Field} {v : Int} (h : putCE c rest v = 0) : putBad c rest v = 0 ∧ mayT (fieldsF c v ++ rest) = 0 := by
  unfold putCE at h
  split at h
  · rename_i h0; exact ⟨h0, h⟩
  · rename_i h0; exact absurd h h0
theorem pB_is {c : Command} {rest : List Field} {v : Int} (h : putCE c rest v = 0) : putCB c rest v = ((fieldsF c v ++ rest).map fieldB).flatten := by
  obtain ⟨h1, h2⟩ := pE_parts h
  rw [putCB, if_pos h1, putTF, if_pos h2]
theorem bytes_same {a b : Command} {v : Int} (ha : putCE a [] v = 0) (hb : putCE b [] v = 0) : decide ((⟨putCB a [] v⟩ : Str) = ⟨putCB b [] v⟩) = decide (a = b) := by
  rw [Bool.eq_iff_iff, decide_eq_true_eq, decide_eq_true_eq]
  constructor
  · intro h
    have h1 : putCB a [] v = putCB b [] v := congrArg Str.b h
    rw [pB_is ha, pB_is hb, List.append_nil, List.append_nil] at h1
    obtain ⟨a1, a2⟩ := pE_parts ha
    obtain ⟨b1, b2⟩ := pE_parts hb
    rw [List.append_nil] at a2 b2
    exact cmd_inj (bad_ok a1) (bad_ok b1) (fields_inj (chk_alone (may_chk a2)) (chk_alone (may_chk b2)) h1)
  · rintro rfl; rfl
def f99 : Field := ⟨99, 0, ⟨1⟩, []⟩
theorem f99_len : (fieldB f99).length = 3 := by decide +kernel
theorem chk_snoc : ∀ {l : List Field} {p : Option Field} {f : Field}, chkT p l = 0 → aloneF f = true → (∀ q, p = some q → risesF q f = true) → (∀ x ∈ l, risesF x f = true) → f.b = [] → chkT p (l ++ [f]) = 0
  | [], p, f, _, ha, hp, _, hb => by
    have : stepT p f = 0 := by
      unfold stepT
      rw [if_neg (by rw [ha]; decide), if_neg, if_neg (by rw [hb]; decide)]
      cases p with
      | none => simp [okP]
      | some q => simp [okP, hp q rfl]
    simp [chkT, this]
  | x :: l, p, f, h, ha, hp, hl, hb => by
    unfold chkT at h
    split at h
    · rename_i hs
      show (if stepT p x = 0 then chkT (some x) (l ++ [f]) else stepT p x) = 0
      rw [if_pos hs]
      exact chk_snoc h ha (fun q hq => by cases hq; exact hl x (by simp)) (fun y hy => hl y (List.mem_cons_of_mem _ hy)) hb
    · rename_i hs; exact absurd h hs
theorem sum_app (l m : List Field) : sumT (l ++ m) = sumT l + sumT m := by unfold sumT; rw [List.map_append, List.sum_append]
theorem sum_nm {j x : Int} (hx : x.toNat < 18446744073709551616) : sumT (nmF j x) ≤ 20 := by
  unfold nmF; split
  · simp [sumT]
  · have h1 := tagB_len j 0; have h2 := putF_len10 hx
    simp only [sumT, List.map_cons, List.map_nil, List.sum_cons, List.sum_nil, fieldB, if_true, List.length_append]; omega
theorem sum_by {j : Int} {b : List UInt8} (hb : b.length ≤ 100) : sumT (byF j b) ≤ 120 := by
  unfold byF; split
  · have h1 := tagB_len j 2; have h2 := putF_len10 (n := b.length) (by omega)
    simp only [sumT, List.map_cons, List.map_nil, List.sum_cons, List.sum_nil, fieldB, show ¬ (2 : Int) = 0 by decide, if_false, List.length_append]; omega
  · simp [sumT]
theorem chunksB_len {l : List Int} : (chunksB l).length ≤ 100 := by
  unfold chunksB; split
  · rename_i h
    have h1 := puts_len (l := l) (fun x hx => (row_le h x hx).2); have := row_len h; omega
  · simp
theorem fields_sum {c : Command} {v : Int} (h : CmdOk c v) (hk : c.kind ≤ 9223372036854775807 ∧ c.client ≤ 9223372036854775807 ∧ c.seq ≤ 9223372036854775807 ∧ c.set ≤ 9223372036854775807 ∧ c.id ≤ 9223372036854775807 ∧ c.n ≤ 9223372036854775807) : sumT (fieldsF c v) ≤ 400 := by
  rw [fields_form]
  simp only [sum_app]
  have h1 := sum_nm (j := 1) (x := c.kind) (by omega); have h2 := sum_nm (j := 2) (x := c.client) (by omega); have h3 := sum_nm (j := 3) (x := c.seq) (by omega)
  have h4 := sum_nm (j := 4) (x := c.set) (by omega); have h5 := sum_nm (j := 5) (x := c.id) (by omega); have h6 := sum_nm (j := 6) (x := c.n) (by omega)
  have h7 := sum_by (j := 7) (b := chunksB c.chunks) chunksB_len
  have h8 : sumT (textT c v) ≤ 120 := by
    unfold textT; split
    · exact sum_by (by rcases h.tx with h | h; rw [h]; simp; omega)
    · simp [sumT]
  omega
theorem top_lt {v : Int} (h : 1 ≤ v ∧ v ≤ 3) : topF v < 99 := by
  have : v = 1 ∨ v = 2 ∨ v = 3 := by omega
  rcases this with rfl | rfl | rfl <;> decide
theorem bad_99 {c : Command} {v : Int} (hv : 1 ≤ v ∧ v ≤ 3) (h : putBad c [] v = 0) : putBad c [f99] v = 0 := by
  have ht := top_lt hv
  unfold putBad at *
  split at h
  · cases h
  · split at h
    · rename_i h2; exact absurd h h2.2
    · rename_i h1 h2
      rw [if_neg h1, if_neg h2, if_neg]
      simp [f99]; omega
theorem put_99 {c : Command} {v : Int} (hv : 1 ≤ v ∧ v ≤ 3) (h : putCE c [] v = 0) (hk : c.kind ≤ 9223372036854775807 ∧ c.client ≤ 9223372036854775807 ∧ c.seq ≤ 9223372036854775807 ∧ c.set ≤ 9223372036854775807 ∧ c.id ≤ 9223372036854775807 ∧ c.n ≤ 9223372036854775807) :
    putCE c [f99] v = 0 ∧ putCB c [f99] v = putCB c [] v ++ fieldB f99 := by
  obtain ⟨h1, h2⟩ := pE_parts h
  rw [List.append_nil] at h2
  have hb := bad_99 hv h1
  have hc : chkT none (fieldsF c v ++ [f99]) = 0 := chk_snoc (may_chk h2) (by decide) (fun q hq => by cases hq) (fun x hx => by
    have := fields_num x hx
    unfold risesF
    rw [if_neg (by show ¬ (99 : Int) = _; omega)]
    exact decide_eq_true (by show x.num < 99; omega)) rfl
  have hs := fields_sum (bad_ok h1) hk
  have hm : mayT (fieldsF c v ++ [f99]) = 0 := by
    rw [mayT, if_pos hc, if_neg]
    rw [sum_app]
    have : sumT [f99] = 3 := by simp [sumT, f99_len]
    omega
  have he : putCE c [f99] v = 0 := by rw [putCE, if_pos hb, hm]
  refine ⟨he, ?_⟩
  rw [pB_is he, pB_is h, List.append_nil, List.map_append, List.flatten_append]
  simp
theorem sml {a b : Command} {v : Int} (hv : 1 ≤ v ∧ v ≤ 3) (hk : a.kind ≤ 9223372036854775807 ∧ a.client ≤ 9223372036854775807 ∧ a.seq ≤ 9223372036854775807 ∧ a.set ≤ 9223372036854775807 ∧ a.id ≤ 9223372036854775807 ∧ a.n ≤ 9223372036854775807) (h : ((!decide (putCE a [] v = (0 : Int))) || (!decide (putCE b [] v = (0 : Int)))) = false) :
    (decide ((⟨putCB a [] v⟩ : Str) = ⟨putCB b [] v⟩) == decide (a = b)) = true ∧ putCE a [f99] v = 0 ∧ putCB a [f99] v = putCB a [] v ++ fieldB f99 := by
  rw [Bool.or_eq_false_iff] at h
  simp only [Bool.not_eq_false', decide_eq_true_eq] at h
  exact ⟨by rw [bytes_same h.1 h.2]; simp, put_99 hv h.1 hk⟩





end Go.Proofs.Ytfmlgeeogbhppaa
