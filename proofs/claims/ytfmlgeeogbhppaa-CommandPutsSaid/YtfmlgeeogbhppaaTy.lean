/- The structs of package api as Lean's, and how they lie in memory. Conditions: each lemma's own. -/
import Derived.Test.YtfmlgeeogbhppaaOps
import Derived.Test.YtfmlgeeogbhppaaProg
namespace Go.Proofs.Ytfmlgeeogbhppaa
open Go.RowKit

structure Reply where
  code : Int
  n : Int
deriving DecidableEq
instance : Rp Reply := Rp.via 9000 8 (fun x => (x.code, x.n))
theorem Reply.el {o : Bool} {lo hi : Nat} {w : World} {cs : List Value} {x : Reply} (h : Rp.rp o lo hi w cs x) : cs = [.int .i64 x.code, .int .i64 x.n] ∧ I64 x.code ∧ I64 x.n := by
  obtain ⟨_, _, rfl, ⟨rfl, h0⟩, ⟨rfl, h1⟩⟩ := h
  exact ⟨rfl, h0, h1⟩
theorem Reply.mk_ {o : Bool} {lo hi : Nat} {w : World} {x0 : Int} {x1 : Int} (h0 : I64 x0) (h1 : I64 x1) : Rp.rp o lo hi w [.int .i64 x0, .int .i64 x1] (⟨x0, x1⟩ : Reply) := ⟨[_], [_], rfl, ⟨rfl, h0⟩, ⟨rfl, h1⟩⟩
structure Sess where
  client : Int
  seq : Int
  last : Reply
deriving DecidableEq
instance : Rp Sess := Rp.via 9000 8 (fun x => (x.client, x.seq, x.last))
theorem Sess.el {o : Bool} {lo hi : Nat} {w : World} {cs : List Value} {x : Sess} (h : Rp.rp o lo hi w cs x) : cs = [.int .i64 x.client, .int .i64 x.seq, .int .i64 x.last.code, .int .i64 x.last.n] ∧ I64 x.client ∧ I64 x.seq ∧ I64 x.last.code ∧ I64 x.last.n := by
  obtain ⟨_, _, rfl, ⟨rfl, h0⟩, ⟨_, _, rfl, ⟨rfl, h1⟩, ⟨_, _, rfl, ⟨rfl, h2⟩, ⟨rfl, h3⟩⟩⟩⟩ := h
  exact ⟨rfl, h0, h1, h2, h3⟩
theorem Sess.mk_ {o : Bool} {lo hi : Nat} {w : World} {x0 : Int} {x1 : Int} {x2 : Int} {x3 : Int} (h0 : I64 x0) (h1 : I64 x1) (h2 : I64 x2) (h3 : I64 x3) : Rp.rp o lo hi w [.int .i64 x0, .int .i64 x1, .int .i64 x2, .int .i64 x3] (⟨x0, x1, ⟨x2, x3⟩⟩ : Sess) := ⟨[_], [_, _, _], rfl, ⟨rfl, h0⟩, ⟨[_], [_, _], rfl, ⟨rfl, h1⟩, ⟨[_], [_], rfl, ⟨rfl, h2⟩, ⟨rfl, h3⟩⟩⟩⟩
structure Opn where
  set : Int
  client : Int
deriving DecidableEq
instance : Rp Opn := Rp.via 9000 8 (fun x => (x.set, x.client))
theorem Opn.el {o : Bool} {lo hi : Nat} {w : World} {cs : List Value} {x : Opn} (h : Rp.rp o lo hi w cs x) : cs = [.int .i64 x.set, .int .i64 x.client] ∧ I64 x.set ∧ I64 x.client := by
  obtain ⟨_, _, rfl, ⟨rfl, h0⟩, ⟨rfl, h1⟩⟩ := h
  exact ⟨rfl, h0, h1⟩
theorem Opn.mk_ {o : Bool} {lo hi : Nat} {w : World} {x0 : Int} {x1 : Int} (h0 : I64 x0) (h1 : I64 x1) : Rp.rp o lo hi w [.int .i64 x0, .int .i64 x1] (⟨x0, x1⟩ : Opn) := ⟨[_], [_], rfl, ⟨rfl, h0⟩, ⟨rfl, h1⟩⟩
structure Snap where
  id : Int
  set : Int
  chunks : List Int
  held : Bool
  tag : Str
deriving DecidableEq
instance : Rp Snap := Rp.via 9000 8 (fun x => (x.id, x.set, x.chunks, x.held, x.tag))
theorem Snap.el {o : Bool} {lo hi : Nat} {w : World} {cs : List Value} {x : Snap} (h : Rp.rp o lo hi w cs x) : ∃ (a2 : Option Addr) (c2 : Nat), cs = [.int .i64 x.id, .int .i64 x.set, .slice a2 x.chunks.length c2, .bool x.held, x.tag.val] ∧ I64 x.id ∧ I64 x.set ∧ Sl o lo hi w (.slice a2 x.chunks.length c2) x.chunks ∧ x.tag.b.length ≤ 140737488355328 := by
  obtain ⟨_, _, rfl, ⟨rfl, h0⟩, ⟨_, _, rfl, ⟨rfl, h1⟩, ⟨_, _, rfl, ⟨v2, rfl, h2⟩, ⟨_, _, rfl, rfl, ⟨rfl, h4⟩⟩⟩⟩⟩ := h
  obtain ⟨a2, c2, rfl, _, _⟩ := h2.form
  exact ⟨a2, c2, rfl, h0, h1, h2, h4⟩
theorem Snap.mk_ {o : Bool} {lo hi : Nat} {w : World} {x0 : Int} {x1 : Int} {x2 : List Int} {a2 : Option Addr} {c2 : Nat} {x3 : Bool} {x4 : Str} (h0 : I64 x0) (h1 : I64 x1) (h2 : Sl o lo hi w (.slice a2 x2.length c2) x2) (h4 : x4.b.length ≤ 140737488355328) : Rp.rp o lo hi w [.int .i64 x0, .int .i64 x1, .slice a2 x2.length c2, .bool x3, x4.val] (⟨x0, x1, x2, x3, x4⟩ : Snap) := ⟨[_], [_, _, _, _], rfl, ⟨rfl, h0⟩, ⟨[_], [_, _, _], rfl, ⟨rfl, h1⟩, ⟨[_], [_, _], rfl, ⟨_, rfl, h2⟩, ⟨[_], [_], rfl, rfl, ⟨rfl, h4⟩⟩⟩⟩⟩
structure State where
  version : Int
  next : Int
  keep : Int
  quota : Int
  sess : List Sess
  opens : List Opn
  snaps : List Snap
deriving DecidableEq
instance : Rp State := Rp.via 9000 8 (fun x => (x.version, x.next, x.keep, x.quota, x.sess, x.opens, x.snaps))
theorem State.el {o : Bool} {lo hi : Nat} {w : World} {cs : List Value} {x : State} (h : Rp.rp o lo hi w cs x) : ∃ (a4 : Option Addr) (c4 : Nat) (a5 : Option Addr) (c5 : Nat) (a6 : Option Addr) (c6 : Nat), cs = [.int .i64 x.version, .int .i64 x.next, .int .i64 x.keep, .int .i64 x.quota, .slice a4 x.sess.length c4, .slice a5 x.opens.length c5, .slice a6 x.snaps.length c6] ∧ I64 x.version ∧ I64 x.next ∧ I64 x.keep ∧ I64 x.quota ∧ Sl o lo hi w (.slice a4 x.sess.length c4) x.sess ∧ Sl o lo hi w (.slice a5 x.opens.length c5) x.opens ∧ Sl o lo hi w (.slice a6 x.snaps.length c6) x.snaps := by
  obtain ⟨_, _, rfl, ⟨rfl, h0⟩, ⟨_, _, rfl, ⟨rfl, h1⟩, ⟨_, _, rfl, ⟨rfl, h2⟩, ⟨_, _, rfl, ⟨rfl, h3⟩, ⟨_, _, rfl, ⟨v4, rfl, h4⟩, ⟨_, _, rfl, ⟨v5, rfl, h5⟩, ⟨v6, rfl, h6⟩⟩⟩⟩⟩⟩⟩ := h
  obtain ⟨a4, c4, rfl, _, _⟩ := h4.form
  obtain ⟨a5, c5, rfl, _, _⟩ := h5.form
  obtain ⟨a6, c6, rfl, _, _⟩ := h6.form
  exact ⟨a4, c4, a5, c5, a6, c6, rfl, h0, h1, h2, h3, h4, h5, h6⟩
theorem State.mk_ {o : Bool} {lo hi : Nat} {w : World} {x0 : Int} {x1 : Int} {x2 : Int} {x3 : Int} {x4 : List Sess} {a4 : Option Addr} {c4 : Nat} {x5 : List Opn} {a5 : Option Addr} {c5 : Nat} {x6 : List Snap} {a6 : Option Addr} {c6 : Nat} (h0 : I64 x0) (h1 : I64 x1) (h2 : I64 x2) (h3 : I64 x3) (h4 : Sl o lo hi w (.slice a4 x4.length c4) x4) (h5 : Sl o lo hi w (.slice a5 x5.length c5) x5) (h6 : Sl o lo hi w (.slice a6 x6.length c6) x6) : Rp.rp o lo hi w [.int .i64 x0, .int .i64 x1, .int .i64 x2, .int .i64 x3, .slice a4 x4.length c4, .slice a5 x5.length c5, .slice a6 x6.length c6] (⟨x0, x1, x2, x3, x4, x5, x6⟩ : State) := ⟨[_], [_, _, _, _, _, _], rfl, ⟨rfl, h0⟩, ⟨[_], [_, _, _, _, _], rfl, ⟨rfl, h1⟩, ⟨[_], [_, _, _, _], rfl, ⟨rfl, h2⟩, ⟨[_], [_, _, _], rfl, ⟨rfl, h3⟩, ⟨[_], [_, _], rfl, ⟨_, rfl, h4⟩, ⟨[_], [_], rfl, ⟨_, rfl, h5⟩, ⟨_, rfl, h6⟩⟩⟩⟩⟩⟩⟩
structure Command where
  kind : Int
  client : Int
  seq : Int
  set : Int
  id : Int
  n : Int
  chunks : List Int
  text : Str
deriving DecidableEq
instance : Rp Command := Rp.via 24 88 (fun x => (x.kind, x.client, x.seq, x.set, x.id, x.n, x.chunks, x.text))
theorem Command.el {o : Bool} {lo hi : Nat} {w : World} {cs : List Value} {x : Command} (h : Rp.rp o lo hi w cs x) : ∃ (a6 : Option Addr) (c6 : Nat), cs = [.int .i64 x.kind, .int .i64 x.client, .int .i64 x.seq, .int .i64 x.set, .int .i64 x.id, .int .i64 x.n, .slice a6 x.chunks.length c6, x.text.val] ∧ I64 x.kind ∧ I64 x.client ∧ I64 x.seq ∧ I64 x.set ∧ I64 x.id ∧ I64 x.n ∧ Sl o lo hi w (.slice a6 x.chunks.length c6) x.chunks ∧ x.text.b.length ≤ 140737488355328 := by
  obtain ⟨_, _, rfl, ⟨rfl, h0⟩, ⟨_, _, rfl, ⟨rfl, h1⟩, ⟨_, _, rfl, ⟨rfl, h2⟩, ⟨_, _, rfl, ⟨rfl, h3⟩, ⟨_, _, rfl, ⟨rfl, h4⟩, ⟨_, _, rfl, ⟨rfl, h5⟩, ⟨_, _, rfl, ⟨v6, rfl, h6⟩, ⟨rfl, h7⟩⟩⟩⟩⟩⟩⟩⟩ := h
  obtain ⟨a6, c6, rfl, _, _⟩ := h6.form
  exact ⟨a6, c6, rfl, h0, h1, h2, h3, h4, h5, h6, h7⟩
theorem Command.mk_ {o : Bool} {lo hi : Nat} {w : World} {x0 : Int} {x1 : Int} {x2 : Int} {x3 : Int} {x4 : Int} {x5 : Int} {x6 : List Int} {a6 : Option Addr} {c6 : Nat} {x7 : Str} (h0 : I64 x0) (h1 : I64 x1) (h2 : I64 x2) (h3 : I64 x3) (h4 : I64 x4) (h5 : I64 x5) (h6 : Sl o lo hi w (.slice a6 x6.length c6) x6) (h7 : x7.b.length ≤ 140737488355328) : Rp.rp o lo hi w [.int .i64 x0, .int .i64 x1, .int .i64 x2, .int .i64 x3, .int .i64 x4, .int .i64 x5, .slice a6 x6.length c6, x7.val] (⟨x0, x1, x2, x3, x4, x5, x6, x7⟩ : Command) := ⟨[_], [_, _, _, _, _, _, _], rfl, ⟨rfl, h0⟩, ⟨[_], [_, _, _, _, _, _], rfl, ⟨rfl, h1⟩, ⟨[_], [_, _, _, _, _], rfl, ⟨rfl, h2⟩, ⟨[_], [_, _, _, _], rfl, ⟨rfl, h3⟩, ⟨[_], [_, _, _], rfl, ⟨rfl, h4⟩, ⟨[_], [_, _], rfl, ⟨rfl, h5⟩, ⟨[_], [_], rfl, ⟨_, rfl, h6⟩, ⟨rfl, h7⟩⟩⟩⟩⟩⟩⟩⟩
structure Field where
  num : Int
  wire : Int
  n : U64
  b : List UInt8
deriving DecidableEq
instance : Rp Field := Rp.via 37 48 (fun x => (x.num, x.wire, x.n, x.b))
theorem Field.el {o : Bool} {lo hi : Nat} {w : World} {cs : List Value} {x : Field} (h : Rp.rp o lo hi w cs x) : ∃ (a3 : Option Addr) (c3 : Nat), cs = [.int .i64 x.num, .int .i64 x.wire, .int .u64 (x.n.n : Int), .slice a3 x.b.length c3] ∧ I64 x.num ∧ I64 x.wire ∧ x.n.n < 18446744073709551616 ∧ Sl o lo hi w (.slice a3 x.b.length c3) x.b := by
  obtain ⟨_, _, rfl, ⟨rfl, h0⟩, ⟨_, _, rfl, ⟨rfl, h1⟩, ⟨_, _, rfl, ⟨rfl, h2⟩, ⟨v3, rfl, h3⟩⟩⟩⟩ := h
  obtain ⟨a3, c3, rfl, _, _⟩ := h3.form
  exact ⟨a3, c3, rfl, h0, h1, h2, h3⟩
theorem Field.mk_ {o : Bool} {lo hi : Nat} {w : World} {x0 : Int} {x1 : Int} {x2 : U64} {x3 : List UInt8} {a3 : Option Addr} {c3 : Nat} (h0 : I64 x0) (h1 : I64 x1) (h2 : x2.n < 18446744073709551616) (h3 : Sl o lo hi w (.slice a3 x3.length c3) x3) : Rp.rp o lo hi w [.int .i64 x0, .int .i64 x1, .int .u64 (x2.n : Int), .slice a3 x3.length c3] (⟨x0, x1, x2, x3⟩ : Field) := ⟨[_], [_, _, _], rfl, ⟨rfl, h0⟩, ⟨[_], [_, _], rfl, ⟨rfl, h1⟩, ⟨[_], [_], rfl, ⟨rfl, h2⟩, ⟨_, rfl, h3⟩⟩⟩⟩
structure Spec where
  num : Int
  wire : Int
  since : Int
  need : Bool
  many : Bool
deriving DecidableEq
instance : Rp Spec := Rp.via 83 32 (fun x => (x.num, x.wire, x.since, x.need, x.many))
theorem Spec.el {o : Bool} {lo hi : Nat} {w : World} {cs : List Value} {x : Spec} (h : Rp.rp o lo hi w cs x) : cs = [.int .i64 x.num, .int .i64 x.wire, .int .i64 x.since, .bool x.need, .bool x.many] ∧ I64 x.num ∧ I64 x.wire ∧ I64 x.since := by
  obtain ⟨_, _, rfl, ⟨rfl, h0⟩, ⟨_, _, rfl, ⟨rfl, h1⟩, ⟨_, _, rfl, ⟨rfl, h2⟩, ⟨_, _, rfl, rfl, rfl⟩⟩⟩⟩ := h
  exact ⟨rfl, h0, h1, h2⟩
theorem Spec.mk_ {o : Bool} {lo hi : Nat} {w : World} {x0 : Int} {x1 : Int} {x2 : Int} {x3 : Bool} {x4 : Bool} (h0 : I64 x0) (h1 : I64 x1) (h2 : I64 x2) : Rp.rp o lo hi w [.int .i64 x0, .int .i64 x1, .int .i64 x2, .bool x3, .bool x4] (⟨x0, x1, x2, x3, x4⟩ : Spec) := ⟨[_], [_, _, _, _], rfl, ⟨rfl, h0⟩, ⟨[_], [_, _, _], rfl, ⟨rfl, h1⟩, ⟨[_], [_, _], rfl, ⟨rfl, h2⟩, ⟨[_], [_], rfl, rfl, rfl⟩⟩⟩⟩
structure Entry where
  term : Int
  b : List UInt8
deriving DecidableEq
instance : Rp Entry := Rp.via 9000 8 (fun x => (x.term, x.b))
theorem Entry.el {o : Bool} {lo hi : Nat} {w : World} {cs : List Value} {x : Entry} (h : Rp.rp o lo hi w cs x) : ∃ (a1 : Option Addr) (c1 : Nat), cs = [.int .i64 x.term, .slice a1 x.b.length c1] ∧ I64 x.term ∧ Sl o lo hi w (.slice a1 x.b.length c1) x.b := by
  obtain ⟨_, _, rfl, ⟨rfl, h0⟩, ⟨v1, rfl, h1⟩⟩ := h
  obtain ⟨a1, c1, rfl, _, _⟩ := h1.form
  exact ⟨a1, c1, rfl, h0, h1⟩
theorem Entry.mk_ {o : Bool} {lo hi : Nat} {w : World} {x0 : Int} {x1 : List UInt8} {a1 : Option Addr} {c1 : Nat} (h0 : I64 x0) (h1 : Sl o lo hi w (.slice a1 x1.length c1) x1) : Rp.rp o lo hi w [.int .i64 x0, .slice a1 x1.length c1] (⟨x0, x1⟩ : Entry) := ⟨[_], [_], rfl, ⟨rfl, h0⟩, ⟨_, rfl, h1⟩⟩
structure Event where
  kind : Int
  a : Int
  b : Int
  c : Command
deriving DecidableEq
instance : Rp Event := Rp.via 9000 8 (fun x => (x.kind, x.a, x.b, x.c))
theorem Event.el {o : Bool} {lo hi : Nat} {w : World} {cs : List Value} {x : Event} (h : Rp.rp o lo hi w cs x) : ∃ (a9 : Option Addr) (c9 : Nat), cs = [.int .i64 x.kind, .int .i64 x.a, .int .i64 x.b, .int .i64 x.c.kind, .int .i64 x.c.client, .int .i64 x.c.seq, .int .i64 x.c.set, .int .i64 x.c.id, .int .i64 x.c.n, .slice a9 x.c.chunks.length c9, x.c.text.val] ∧ I64 x.kind ∧ I64 x.a ∧ I64 x.b ∧ I64 x.c.kind ∧ I64 x.c.client ∧ I64 x.c.seq ∧ I64 x.c.set ∧ I64 x.c.id ∧ I64 x.c.n ∧ Sl o lo hi w (.slice a9 x.c.chunks.length c9) x.c.chunks ∧ x.c.text.b.length ≤ 140737488355328 := by
  obtain ⟨_, _, rfl, ⟨rfl, h0⟩, ⟨_, _, rfl, ⟨rfl, h1⟩, ⟨_, _, rfl, ⟨rfl, h2⟩, ⟨_, _, rfl, ⟨rfl, h3⟩, ⟨_, _, rfl, ⟨rfl, h4⟩, ⟨_, _, rfl, ⟨rfl, h5⟩, ⟨_, _, rfl, ⟨rfl, h6⟩, ⟨_, _, rfl, ⟨rfl, h7⟩, ⟨_, _, rfl, ⟨rfl, h8⟩, ⟨_, _, rfl, ⟨v9, rfl, h9⟩, ⟨rfl, h10⟩⟩⟩⟩⟩⟩⟩⟩⟩⟩⟩ := h
  obtain ⟨a9, c9, rfl, _, _⟩ := h9.form
  exact ⟨a9, c9, rfl, h0, h1, h2, h3, h4, h5, h6, h7, h8, h9, h10⟩
theorem Event.mk_ {o : Bool} {lo hi : Nat} {w : World} {x0 : Int} {x1 : Int} {x2 : Int} {x3 : Int} {x4 : Int} {x5 : Int} {x6 : Int} {x7 : Int} {x8 : Int} {x9 : List Int} {a9 : Option Addr} {c9 : Nat} {x10 : Str} (h0 : I64 x0) (h1 : I64 x1) (h2 : I64 x2) (h3 : I64 x3) (h4 : I64 x4) (h5 : I64 x5) (h6 : I64 x6) (h7 : I64 x7) (h8 : I64 x8) (h9 : Sl o lo hi w (.slice a9 x9.length c9) x9) (h10 : x10.b.length ≤ 140737488355328) : Rp.rp o lo hi w [.int .i64 x0, .int .i64 x1, .int .i64 x2, .int .i64 x3, .int .i64 x4, .int .i64 x5, .int .i64 x6, .int .i64 x7, .int .i64 x8, .slice a9 x9.length c9, x10.val] (⟨x0, x1, x2, ⟨x3, x4, x5, x6, x7, x8, x9, x10⟩⟩ : Event) := ⟨[_], [_, _, _, _, _, _, _, _, _, _], rfl, ⟨rfl, h0⟩, ⟨[_], [_, _, _, _, _, _, _, _, _], rfl, ⟨rfl, h1⟩, ⟨[_], [_, _, _, _, _, _, _, _], rfl, ⟨rfl, h2⟩, ⟨[_], [_, _, _, _, _, _, _], rfl, ⟨rfl, h3⟩, ⟨[_], [_, _, _, _, _, _], rfl, ⟨rfl, h4⟩, ⟨[_], [_, _, _, _, _], rfl, ⟨rfl, h5⟩, ⟨[_], [_, _, _, _], rfl, ⟨rfl, h6⟩, ⟨[_], [_, _, _], rfl, ⟨rfl, h7⟩, ⟨[_], [_, _], rfl, ⟨rfl, h8⟩, ⟨[_], [_], rfl, ⟨_, rfl, h9⟩, ⟨rfl, h10⟩⟩⟩⟩⟩⟩⟩⟩⟩⟩⟩

end Go.Proofs.Ytfmlgeeogbhppaa
