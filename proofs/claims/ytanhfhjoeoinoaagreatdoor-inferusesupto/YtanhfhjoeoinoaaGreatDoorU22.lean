/- A part of the proof of InferUses, second form: for every input of bulk at most 1048576 the call returns true and the arguments read as they did. Its condition: that bulk. -/
import Derived.Test.YtanhfhjoeoinoaaGreatDoorU10
import Derived.Test.YtanhfhjoeoinoaaGreatDoorU12
/- A store of types that are still to be found, as a value; how it lies in the machine's memory. -/
namespace Go.Dv.Us
structure UNode where
 kind : Nat
 name : List UInt8
 args : List Nat
 isnil : Bool
def ints (l : List Nat) : List DV := l.map fun n : Nat => .int .i64 n
def UNode.argsD (x : UNode) : DV := if x.isnil then .nilslice else .imm (ints x.args) x.args.length
def UNode.cells (x : UNode) : List DV := [.int .i64 x.kind, .str x.name, x.argsD]
structure Store where
 nodes : List UNode
 above : List Nat
 ranks : List Nat
 forms : List Nat
def nav (l : List UNode) : List AV := l.flatMap fun x => x.cells.map .d
/-- The values of the four rows of a store. -/
structure At where
 n : AV
 a : AV
 r : AV
 f : AV
/-- Whose cells a store's are. -/
def At.own (p : At) (s : Nat) : List Nat := s :: (p.n.own ++ (p.a.own ++ (p.r.own ++ p.f.own)))
/-- Four rows, and the variable that holds them. -/
structure Rows4 (h : Hp) (s : Nat) (p : At) (nl : Nat) (nc : List AV) (al : Nat) (ac : List AV) (rl : Nat) (rc : List AV) (fl : Nat) (fc : List AV) : Prop where
 lt : s < h.next
 st : h.get s = some (.cells [p.n, p.a, p.r, p.f] 0)
 hn : RowAt h 3 p.n nl nc
 ha : RowAt h 1 p.a al ac
 hr : RowAt h 1 p.r rl rc
 hf : RowAt h 1 p.f fl fc
 sn : s ∉ p.n.own
 sa : s ∉ p.a.own
 sr : s ∉ p.r.own
 sf : s ∉ p.f.own
 na : ∀ id ∈ p.n.own, id ∉ p.a.own
 nr : ∀ id ∈ p.n.own, id ∉ p.r.own
 nf : ∀ id ∈ p.n.own, id ∉ p.f.own
 ar : ∀ id ∈ p.a.own, id ∉ p.r.own
 af : ∀ id ∈ p.a.own, id ∉ p.f.own
 rf : ∀ id ∈ p.r.own, id ∉ p.f.own
theorem At.mem_own {p : At} {s id : Nat} : id ∈ p.own s ↔ id = s ∨ id ∈ p.n.own ∨ id ∈ p.a.own ∨ id ∈ p.r.own ∨ id ∈ p.f.own := by
 simp [At.own]
section
variable {h h' : Hp} {s : Nat} {p : At} {nl al rl fl len : Nat} {nc ac rc fc cs : List AV} {v : AV}
theorem Rows4.olt (R : Rows4 h s p nl nc al ac rl rc fl fc) : ∀ id ∈ p.own s, id < h.next := by
 intro id hm
 rcases At.mem_own.1 hm with rfl | h1 | h1 | h1 | h1
 ·exact R.lt
 ·exact R.hn.lt id h1
 ·exact R.ha.lt id h1
 ·exact R.hr.lt id h1
 ·exact R.hf.lt id h1
/-- Memory in which what is owned is as it was. -/
theorem Rows4.keep (R : Rows4 h s p nl nc al ac rl rc fl fc) (hn : h.next ≤ h'.next) (hk : ∀ id ∈ p.own s, h'.get id = h.get id) : Rows4 h' s p nl nc al ac rl rc fl fc :=
 { R with
  lt := Nat.lt_of_lt_of_le R.lt hn
  st := (hk s (At.mem_own.2 (.inl rfl))).trans R.st
  hn := R.hn.keep hn fun id h1 => hk id (At.mem_own.2 (.inr (.inl h1)))
  ha := R.ha.keep hn fun id h1 => hk id (At.mem_own.2 (.inr (.inr (.inl h1))))
  hr := R.hr.keep hn fun id h1 => hk id (At.mem_own.2 (.inr (.inr (.inr (.inl h1)))))
  hf := R.hf.keep hn fun id h1 => hk id (At.mem_own.2 (.inr (.inr (.inr (.inr h1))))) }
theorem Rows4.put_n (R : Rows4 h s p nl nc al ac rl rc fl fc) (W : Longer h p.n 3 len cs h' v) :
  Rows4 (h'.set s (.cells [v, p.a, p.r, p.f] 0)) s ⟨v, p.a, p.r, p.f⟩ len cs al ac rl rc fl fc ∧ Fram h (h'.set s (.cells [v, p.a, p.r, p.f] 0)) (p.own s) (At.own ⟨v, p.a, p.r, p.f⟩ s) := by
 have hs : ∀ id ∈ v.own, id ≠ s := fun id h1 h2 => by
  subst h2
  rcases W.own _ h1 with h3 | h3
  ·exact R.sn h3
  ·have := R.lt; omega
 have da : ∀ id ∈ v.own, id ∉ p.a.own := fun id h1 h2 => by
  rcases W.own _ h1 with h3 | h3
  ·exact R.na id h3 h2
  ·have := R.ha.lt id h2; omega
 have dr : ∀ id ∈ v.own, id ∉ p.r.own := fun id h1 h2 => by
  rcases W.own _ h1 with h3 | h3
  ·exact R.nr id h3 h2
  ·have := R.hr.lt id h2; omega
 have df : ∀ id ∈ v.own, id ∉ p.f.own := fun id h1 h2 => by
  rcases W.own _ h1 with h3 | h3
  ·exact R.nf id h3 h2
  ·have := R.hf.lt id h2; omega
 have ka : ∀ id ∈ p.a.own, (h'.set s (.cells [v, p.a, p.r, p.f] 0)).get id = h.get id := fun id h1 => by
  rw [Hp.get_set_ne (fun h2 : id = s => R.sa (by rw [← h2]; exact h1)), W.keep id (R.ha.lt id h1) (fun h2 => R.na id h2 h1)]
 have kr : ∀ id ∈ p.r.own, (h'.set s (.cells [v, p.a, p.r, p.f] 0)).get id = h.get id := fun id h1 => by
  rw [Hp.get_set_ne (fun h2 : id = s => R.sr (by rw [← h2]; exact h1)), W.keep id (R.hr.lt id h1) (fun h2 => R.nr id h2 h1)]
 have kf : ∀ id ∈ p.f.own, (h'.set s (.cells [v, p.a, p.r, p.f] 0)).get id = h.get id := fun id h1 => by
  rw [Hp.get_set_ne (fun h2 : id = s => R.sf (by rw [← h2]; exact h1)), W.keep id (R.hf.lt id h1) (fun h2 => R.nf id h2 h1)]
 refine ⟨{ lt := Nat.lt_of_lt_of_le R.lt W.next, st := Hp.get_set_eq, hn := W.row.keep (Nat.le_refl _) fun id h1 => Hp.get_set_ne (hs id h1), ha := R.ha.keep W.next ka, hr := R.hr.keep W.next kr, hf := R.hf.keep W.next kf, sn := fun h1 => hs s h1 rfl, sa := R.sa, sr := R.sr, sf := R.sf, na := da, nr := dr, nf := df, ar := R.ar, af := R.af, rf := R.rf }, W.next, fun id h1 h2 => ?_, fun id h1 => ?_⟩
 ·rw [Hp.get_set_ne (fun h3 => h2 (At.mem_own.2 (.inl h3))), W.keep id h1 (fun h3 => h2 (At.mem_own.2 (.inr (.inl h3))))]
 ·rcases At.mem_own.1 h1 with h1 | h1 | h1 | h1 | h1
  ·exact .inl (At.mem_own.2 (.inl h1))
  ·exact (W.own id h1).imp (fun h3 => At.mem_own.2 (.inr (.inl h3))) (fun h3 => h3)
  ·exact .inl (At.mem_own.2 (.inr (.inr (.inl h1))))
  ·exact .inl (At.mem_own.2 (.inr (.inr (.inr (.inl h1)))))
  ·exact .inl (At.mem_own.2 (.inr (.inr (.inr (.inr h1)))))
theorem Rows4.put_a (R : Rows4 h s p nl nc al ac rl rc fl fc) (W : Longer h p.a 1 len cs h' v) :
  Rows4 (h'.set s (.cells [p.n, v, p.r, p.f] 0)) s ⟨p.n, v, p.r, p.f⟩ nl nc len cs rl rc fl fc ∧ Fram h (h'.set s (.cells [p.n, v, p.r, p.f] 0)) (p.own s) (At.own ⟨p.n, v, p.r, p.f⟩ s) := by
 have hs : ∀ id ∈ v.own, id ≠ s := fun id h1 h2 => by
  subst h2
  rcases W.own _ h1 with h3 | h3
  ·exact R.sa h3
  ·have := R.lt; omega
 have dn : ∀ id ∈ v.own, id ∉ p.n.own := fun id h1 h2 => by
  rcases W.own _ h1 with h3 | h3
  ·exact R.na id h2 h3
  ·have := R.hn.lt id h2; omega
 have dr : ∀ id ∈ v.own, id ∉ p.r.own := fun id h1 h2 => by
  rcases W.own _ h1 with h3 | h3
  ·exact R.ar id h3 h2
  ·have := R.hr.lt id h2; omega
 have df : ∀ id ∈ v.own, id ∉ p.f.own := fun id h1 h2 => by
  rcases W.own _ h1 with h3 | h3
  ·exact R.af id h3 h2
  ·have := R.hf.lt id h2; omega
 have kn : ∀ id ∈ p.n.own, (h'.set s (.cells [p.n, v, p.r, p.f] 0)).get id = h.get id := fun id h1 => by
  rw [Hp.get_set_ne (fun h2 : id = s => R.sn (by rw [← h2]; exact h1)), W.keep id (R.hn.lt id h1) (fun h2 => R.na id h1 h2)]
 have kr : ∀ id ∈ p.r.own, (h'.set s (.cells [p.n, v, p.r, p.f] 0)).get id = h.get id := fun id h1 => by
  rw [Hp.get_set_ne (fun h2 : id = s => R.sr (by rw [← h2]; exact h1)), W.keep id (R.hr.lt id h1) (fun h2 => R.ar id h2 h1)]
 have kf : ∀ id ∈ p.f.own, (h'.set s (.cells [p.n, v, p.r, p.f] 0)).get id = h.get id := fun id h1 => by
  rw [Hp.get_set_ne (fun h2 : id = s => R.sf (by rw [← h2]; exact h1)), W.keep id (R.hf.lt id h1) (fun h2 => R.af id h2 h1)]
 refine ⟨{ lt := Nat.lt_of_lt_of_le R.lt W.next, st := Hp.get_set_eq, hn := R.hn.keep W.next kn, ha := W.row.keep (Nat.le_refl _) fun id h1 => Hp.get_set_ne (hs id h1), hr := R.hr.keep W.next kr, hf := R.hf.keep W.next kf, sn := R.sn, sa := fun h1 => hs s h1 rfl, sr := R.sr, sf := R.sf, na := fun id h1 h2 => dn id h2 h1, nr := R.nr, nf := R.nf, ar := dr, af := df, rf := R.rf }, W.next, fun id h1 h2 => ?_, fun id h1 => ?_⟩
 ·rw [Hp.get_set_ne (fun h3 => h2 (At.mem_own.2 (.inl h3))), W.keep id h1 (fun h3 => h2 (At.mem_own.2 (.inr (.inr (.inl h3)))))]
 ·rcases At.mem_own.1 h1 with h1 | h1 | h1 | h1 | h1
  ·exact .inl (At.mem_own.2 (.inl h1))
  ·exact .inl (At.mem_own.2 (.inr (.inl h1)))
  ·exact (W.own id h1).imp (fun h3 => At.mem_own.2 (.inr (.inr (.inl h3)))) (fun h3 => h3)
  ·exact .inl (At.mem_own.2 (.inr (.inr (.inr (.inl h1)))))
  ·exact .inl (At.mem_own.2 (.inr (.inr (.inr (.inr h1)))))
theorem Rows4.put_r (R : Rows4 h s p nl nc al ac rl rc fl fc) (W : Longer h p.r 1 len cs h' v) :
  Rows4 (h'.set s (.cells [p.n, p.a, v, p.f] 0)) s ⟨p.n, p.a, v, p.f⟩ nl nc al ac len cs fl fc ∧ Fram h (h'.set s (.cells [p.n, p.a, v, p.f] 0)) (p.own s) (At.own ⟨p.n, p.a, v, p.f⟩ s) := by
 have hs : ∀ id ∈ v.own, id ≠ s := fun id h1 h2 => by
  subst h2
  rcases W.own _ h1 with h3 | h3
  ·exact R.sr h3
  ·have := R.lt; omega
 have dn : ∀ id ∈ v.own, id ∉ p.n.own := fun id h1 h2 => by
  rcases W.own _ h1 with h3 | h3
  ·exact R.nr id h2 h3
  ·have := R.hn.lt id h2; omega
 have da : ∀ id ∈ v.own, id ∉ p.a.own := fun id h1 h2 => by
  rcases W.own _ h1 with h3 | h3
  ·exact R.ar id h2 h3
  ·have := R.ha.lt id h2; omega
 have df : ∀ id ∈ v.own, id ∉ p.f.own := fun id h1 h2 => by
  rcases W.own _ h1 with h3 | h3
  ·exact R.rf id h3 h2
  ·have := R.hf.lt id h2; omega
 have kn : ∀ id ∈ p.n.own, (h'.set s (.cells [p.n, p.a, v, p.f] 0)).get id = h.get id := fun id h1 => by
  rw [Hp.get_set_ne (fun h2 : id = s => R.sn (by rw [← h2]; exact h1)), W.keep id (R.hn.lt id h1) (fun h2 => R.nr id h1 h2)]
 have ka : ∀ id ∈ p.a.own, (h'.set s (.cells [p.n, p.a, v, p.f] 0)).get id = h.get id := fun id h1 => by
  rw [Hp.get_set_ne (fun h2 : id = s => R.sa (by rw [← h2]; exact h1)), W.keep id (R.ha.lt id h1) (fun h2 => R.ar id h1 h2)]
 have kf : ∀ id ∈ p.f.own, (h'.set s (.cells [p.n, p.a, v, p.f] 0)).get id = h.get id := fun id h1 => by
  rw [Hp.get_set_ne (fun h2 : id = s => R.sf (by rw [← h2]; exact h1)), W.keep id (R.hf.lt id h1) (fun h2 => R.rf id h2 h1)]
 refine ⟨{ lt := Nat.lt_of_lt_of_le R.lt W.next, st := Hp.get_set_eq, hn := R.hn.keep W.next kn, ha := R.ha.keep W.next ka, hr := W.row.keep (Nat.le_refl _) fun id h1 => Hp.get_set_ne (hs id h1), hf := R.hf.keep W.next kf, sn := R.sn, sa := R.sa, sr := fun h1 => hs s h1 rfl, sf := R.sf, na := R.na, nr := fun id h1 h2 => dn id h2 h1, nf := R.nf, ar := fun id h1 h2 => da id h2 h1, af := R.af, rf := df }, W.next, fun id h1 h2 => ?_, fun id h1 => ?_⟩
 ·rw [Hp.get_set_ne (fun h3 => h2 (At.mem_own.2 (.inl h3))), W.keep id h1 (fun h3 => h2 (At.mem_own.2 (.inr (.inr (.inr (.inl h3))))))]
 ·rcases At.mem_own.1 h1 with h1 | h1 | h1 | h1 | h1
  ·exact .inl (At.mem_own.2 (.inl h1))
  ·exact .inl (At.mem_own.2 (.inr (.inl h1)))
  ·exact .inl (At.mem_own.2 (.inr (.inr (.inl h1))))
  ·exact (W.own id h1).imp (fun h3 => At.mem_own.2 (.inr (.inr (.inr (.inl h3))))) (fun h3 => h3)
  ·exact .inl (At.mem_own.2 (.inr (.inr (.inr (.inr h1)))))
theorem Rows4.put_f (R : Rows4 h s p nl nc al ac rl rc fl fc) (W : Longer h p.f 1 len cs h' v) :
  Rows4 (h'.set s (.cells [p.n, p.a, p.r, v] 0)) s ⟨p.n, p.a, p.r, v⟩ nl nc al ac rl rc len cs ∧ Fram h (h'.set s (.cells [p.n, p.a, p.r, v] 0)) (p.own s) (At.own ⟨p.n, p.a, p.r, v⟩ s) := by
 have hs : ∀ id ∈ v.own, id ≠ s := fun id h1 h2 => by
  subst h2
  rcases W.own _ h1 with h3 | h3
  ·exact R.sf h3
  ·have := R.lt; omega
 have dn : ∀ id ∈ v.own, id ∉ p.n.own := fun id h1 h2 => by
  rcases W.own _ h1 with h3 | h3
  ·exact R.nf id h2 h3
  ·have := R.hn.lt id h2; omega
 have da : ∀ id ∈ v.own, id ∉ p.a.own := fun id h1 h2 => by
  rcases W.own _ h1 with h3 | h3
  ·exact R.af id h2 h3
  ·have := R.ha.lt id h2; omega
 have dr : ∀ id ∈ v.own, id ∉ p.r.own := fun id h1 h2 => by
  rcases W.own _ h1 with h3 | h3
  ·exact R.rf id h2 h3
  ·have := R.hr.lt id h2; omega
 have kn : ∀ id ∈ p.n.own, (h'.set s (.cells [p.n, p.a, p.r, v] 0)).get id = h.get id := fun id h1 => by
  rw [Hp.get_set_ne (fun h2 : id = s => R.sn (by rw [← h2]; exact h1)), W.keep id (R.hn.lt id h1) (fun h2 => R.nf id h1 h2)]
 have ka : ∀ id ∈ p.a.own, (h'.set s (.cells [p.n, p.a, p.r, v] 0)).get id = h.get id := fun id h1 => by
  rw [Hp.get_set_ne (fun h2 : id = s => R.sa (by rw [← h2]; exact h1)), W.keep id (R.ha.lt id h1) (fun h2 => R.af id h1 h2)]
 have kr : ∀ id ∈ p.r.own, (h'.set s (.cells [p.n, p.a, p.r, v] 0)).get id = h.get id := fun id h1 => by
  rw [Hp.get_set_ne (fun h2 : id = s => R.sr (by rw [← h2]; exact h1)), W.keep id (R.hr.lt id h1) (fun h2 => R.rf id h1 h2)]
 refine ⟨{ lt := Nat.lt_of_lt_of_le R.lt W.next, st := Hp.get_set_eq, hn := R.hn.keep W.next kn, ha := R.ha.keep W.next ka, hr := R.hr.keep W.next kr, hf := W.row.keep (Nat.le_refl _) fun id h1 => Hp.get_set_ne (hs id h1), sn := R.sn, sa := R.sa, sr := R.sr, sf := fun h1 => hs s h1 rfl, na := R.na, nr := R.nr, nf := fun id h1 h2 => dn id h2 h1, ar := R.ar, af := fun id h1 h2 => da id h2 h1, rf := fun id h1 h2 => dr id h2 h1 }, W.next, fun id h1 h2 => ?_, fun id h1 => ?_⟩
 ·rw [Hp.get_set_ne (fun h3 => h2 (At.mem_own.2 (.inl h3))), W.keep id h1 (fun h3 => h2 (At.mem_own.2 (.inr (.inr (.inr (.inr h3))))))]
 ·rcases At.mem_own.1 h1 with h1 | h1 | h1 | h1 | h1
  ·exact .inl (At.mem_own.2 (.inl h1))
  ·exact .inl (At.mem_own.2 (.inr (.inl h1)))
  ·exact .inl (At.mem_own.2 (.inr (.inr (.inl h1))))
  ·exact .inl (At.mem_own.2 (.inr (.inr (.inr (.inl h1)))))
  ·exact (W.own id h1).imp (fun h3 => At.mem_own.2 (.inr (.inr (.inr (.inr h3))))) (fun h3 => h3)
end
structure StoreAt (h : Hp) (s : Nat) (S : Store) (p : At) : Prop extends Rows4 h s p S.nodes.length (nav S.nodes) S.nodes.length (nats S.above) S.nodes.length (nats S.ranks) S.nodes.length (nats S.forms) where
 la : S.above.length = S.nodes.length
 lr : S.ranks.length = S.nodes.length
 lf : S.forms.length = S.nodes.length
theorem StoreAt.keep {h h' : Hp} {s : Nat} {S : Store} {p : At} (R : StoreAt h s S p) (hn : h.next ≤ h'.next) (hk : ∀ id ∈ p.own s, h'.get id = h.get id) : StoreAt h' s S p :=
 ⟨R.toRows4.keep hn hk, R.la, R.lr, R.lf⟩
theorem wrap_id {n : Int} (h0 : -9223372036854775808 ≤ n) (h1 : n < 9223372036854775808) : IntKind.i64.wrap n = n := by
 simp [IntKind.wrap, IntKind.bits, IntKind.signed]; omega
/-- The next number. -/
theorem wrap_succ {n : Nat} (h : n < 2 ^ 40) : vint (IntKind.i64.wrap ((n : Int) + 1)) = vint ((n + 1 : Nat) : Int) := by
 rw [wrap_id (by omega) (by omega)]; rfl
def Store.up (S : Store) (n : Nat) : Nat := S.above.getD n 0
def Store.rank (S : Store) (n : Nat) : Nat := S.ranks.getD n 0
def Store.roots (S : Store) : Nat := (List.range S.nodes.length).countP fun n => S.up n == n
/-- Going up ends: ranks rise; forms are nodes. -/
structure Wf (S : Store) : Prop where
 up : ∀ n, n < S.nodes.length → S.up n < S.nodes.length
 rise : ∀ n, n < S.nodes.length → S.up n ≠ n → S.rank n < S.rank (S.up n)
 form : ∀ n, n < S.nodes.length → S.forms.getD n 0 < S.nodes.length
 args : ∀ n, n < S.nodes.length → ∀ x, S.nodes[n]? = some x → ∀ a ∈ x.args, a < S.nodes.length
 size : S.nodes.length ≤ 2 ^ 12
 alen : ∀ n, n < S.nodes.length → ∀ x, S.nodes[n]? = some x → x.args.length ≤ 2 ^ 12
 nil : ∀ n, n < S.nodes.length → ∀ x, S.nodes[n]? = some x → x.isnil = true → x.args = []
 rk : ∀ n, S.rank n + S.roots ≤ S.nodes.length
 la : S.above.length = S.nodes.length
 lr : S.ranks.length = S.nodes.length
 lf : S.forms.length = S.nodes.length
def maxL (l : List Nat) : Nat := l.foldr max 0
theorem le_maxL : ∀ {l : List Nat} {i : Nat}, l.getD i 0 ≤ maxL l
 | [], i => by simp
 | a :: l, 0 => by simp [maxL]; omega
 | a :: l, i + 1 => by
  have := le_maxL (l := l) (i := i)
  simp only [List.getD_cons_succ, maxL, List.foldr_cons] at this ⊢
  exact Nat.le_trans this (Nat.le_max_right _ _)
def Store.findF (S : Store) : Nat → Nat → Nat
 | 0, n => n
 | k + 1, n => if S.up n = n then n else S.findF k (S.up n)
def Store.find (S : Store) (n : Nat) : Nat := S.findF (maxL S.ranks + 1) n
theorem nats_length (l : List Nat) : (nats l).length = l.length := by simp [nats]
theorem nats_get {l : List Nat} {i : Nat} (h : i < l.length) : takeExact 1 (i * 1) (nats l) = some [vint (l.getD i 0 : Nat)] := by
 rw [Nat.mul_one]
 apply take1
 simp [nats, h]
/-- Reading a row of numbers. -/
theorem read1 {h : Hp} {v : AV} {len : Nat} {l : List Nat} (r : RowAt h 1 v len (nats l)) {i : Nat} (hi : i < len) {C : Ctx} {t e : TypeId} {b1 : Nat} {b2 : Bool} {b3 : Nat} {b4 : List DV} {ei : TI} (ht : C.T t = some ⟨.slice e, b1, b2, b3, b4⟩) (he : C.T e = some ei) (hs : ei.size = 1) (ha : ei.agg = false) :
  ∃ q, indexAddrA C t v (vint i) = some q ∧ ∀ L, loadA C L h.get e q = some (vint (l.getD i 0 : Nat)) := by
 have hc := r.clen
 rw [nats_length, Nat.mul_one] at hc
 exact r.read hi ht he hs (nats_get (by omega)) (by simp only [oneOf, ha]; rfl)
theorem nav_length : ∀ (l : List UNode), (nav l).length = l.length * 3
 | [] => rfl
 | x :: l => by
  have := nav_length l
  simp only [nav, List.flatMap_cons, List.length_append, UNode.cells, List.map_cons, List.map_nil, List.length_cons, List.length_nil] at this ⊢
  omega
theorem nav_drop : ∀ (l : List UNode) (i : Nat), (nav l).drop (i * 3) = nav (l.drop i)
 | l, 0 => by simp
 | [], i + 1 => by simp [nav]
 | x :: l, i + 1 => by
  rw [show (i + 1) * 3 = i * 3 + 3 by omega]
  show ((x.cells.map AV.d ++ nav l).drop (i * 3 + 3)) = nav (l.drop i)
  rw [← nav_drop l i]
  rfl
theorem nav_get {l : List UNode} {i : Nat} {x : UNode} (h : l[i]? = some x) : takeExact 3 (i * 3) (nav l) = some (x.cells.map .d) := by
 have hi : i < l.length := (List.getElem?_eq_some_iff.1 h).1
 have h1 : ((nav l).drop (i * 3)).take 3 = x.cells.map .d := by
  rw [nav_drop]
  have : l.drop i = x :: l.drop (i + 1) := by
   rw [List.drop_eq_getElem_cons hi]
   congr 1
   exact (List.getElem?_eq_some_iff.1 h).2
  rw [this]
  simp [nav, UNode.cells]
 unfold takeExact
 simp only [h1]
 rw [if_pos (by simp [UNode.cells])]
def Store.formN (S : Store) (n : Nat) : Nat := S.forms.getD (S.find n) 0
def node0 : UNode := ⟨0, [], [], true⟩
def Store.form (S : Store) (n : Nat) : UNode := S.nodes.getD (S.formN n) node0
def Store.add (S : Store) (x : UNode) : Store := ⟨S.nodes ++ [x], S.above ++ [S.nodes.length], S.ranks ++ [0], S.forms ++ [S.nodes.length]⟩
end Go.Dv.Us
/- find. -/
namespace Go.Dv.Us
open Go.Dv.K Go.Proofs
theorem find_step {S : Store} (hw : Wf S) {m : Nat} (hm : m < S.nodes.length) (h : S.up m ≠ m) : maxL S.ranks - S.rank (S.up m) < maxL S.ranks - S.rank m := by
 have h1 := hw.rise m hm h
 have h2 : S.rank (S.up m) ≤ maxL S.ranks := le_maxL
 omega
theorem findF_eq {S : Store} (hw : Wf S) : ∀ (k : Nat) (n : Nat), n < S.nodes.length → maxL S.ranks - S.rank n < k → S.findF k n = S.find n := by
 have key : ∀ (k k' n : Nat), n < S.nodes.length → maxL S.ranks - S.rank n < k → maxL S.ranks - S.rank n < k' → S.findF k n = S.findF k' n := by
  intro k
  induction k with
  | zero => intro k' n _ h; omega
  | succ k ih =>
   intro k' n hn h h'
   cases k' with
   | zero => omega
   | succ k' =>
    simp only [Store.findF]
    split
    ·rfl
    ·rename_i hu
     have := find_step hw hn hu
     exact ih k' _ (hw.up n hn) (by omega) (by omega)
 intro k n hn h
 exact key _ _ n hn h (by omega)
theorem find_up {S : Store} (hw : Wf S) {n : Nat} (hn : n < S.nodes.length) (h : S.up n ≠ n) : S.find (S.up n) = S.find n := by
 rw [← findF_eq hw (maxL S.ranks + 2) n hn (by omega)]
 show _ = (if S.up n = n then n else S.findF (maxL S.ranks + 1) (S.up n))
 rw [if_neg h]; rfl
theorem find_self {S : Store} {n : Nat} (h : S.up n = n) : S.find n = n := by
 show (if S.up n = n then n else _) = n
 rw [if_pos h]
theorem findF_lt {S : Store} (hw : Wf S) : ∀ (k n : Nat), n < S.nodes.length → S.findF k n < S.nodes.length
 | 0, n, h => h
 | k + 1, n, h => by
  simp only [Store.findF]
  split
  ·exact h
  ·exact findF_lt hw k _ (hw.up n h)
theorem find_lt {S : Store} (hw : Wf S) {n : Nat} (h : n < S.nodes.length) : S.find n < S.nodes.length := findF_lt hw _ n h
theorem find_ret {h : Hp} {s : Nat} {S : Store} {p : At} (hS : StoreAt h s S p) (hw : Wf S) (n : Nat) (hn : n < S.nodes.length) :
  Ret ctx Or Xo 124 [.ptr s 0 0, vint n] h (fun v h' => v = vint (S.find n : Nat) ∧ h' = h) := by
 refine body (env := [(0, .ptr s 0 0), (1, vint n)]) (rs := [.tmp 4]) Tryz.func124 rfl rfl Tryz.ntmps124 rfl rfl ?_
 refine s_seq (s_region ?_)
 refine s_val rfl rfl rfl rfl <| s_nil <| s_seq <| s_block ?_
 refine s_rounds (ι := Nat) (fun m => ⟨[(0, .ptr s 0 0), (1, vint m)], [], h⟩) (fun m => m < S.nodes.length ∧ S.find m = S.find n) (fun m => maxL S.ranks - S.rank m) ?_ n ⟨hn, rfl⟩ ⟨⟨rfl, rfl, trivial⟩, trivial, rfl⟩
 rintro m ⟨hm, hf⟩
 obtain ⟨q, hq1, hq2⟩ := read1 hS.ha hm (C := ctx) (t := 72) (e := 3) rfl rfl rfl rfl
 refine s_seq (s_seq (s_region ?_))
 iterate 3 refine s_val rfl rfl rfl rfl ?_
 refine s_val rfl (o_load rfl rfl rfl hS.st rfl rfl) rfl rfl ?_
 refine s_val rfl rfl rfl rfl ?_
 refine s_val rfl (o_indexV rfl rfl rfl hq1) rfl rfl ?_
 refine s_val rfl (o_loadV rfl rfl (hq2 _)) rfl rfl ?_
 refine s_val rfl rfl rfl rfl <| s_val rfl rfl rfl rfl <| s_nil ?_
 refine s_if rfl (fun ht => s_skip ?_) (fun ht => s_exit ?_)
 ·have hup : S.up m ≠ m := by
   intro he
   have h2 : S.above.getD m 0 = m := he
   rw [h2] at ht; simp at ht
  refine s_block (s_region ?_)
  iterate 3 refine s_val rfl rfl rfl rfl ?_
  refine s_val rfl (o_load rfl rfl rfl hS.st rfl rfl) rfl rfl ?_
  refine s_val rfl rfl rfl rfl ?_
  refine s_val rfl (o_indexV rfl rfl rfl hq1) rfl rfl ?_
  refine s_val rfl (o_loadV rfl rfl (hq2 _)) rfl rfl ?_
  refine s_val rfl rfl rfl rfl <| s_nil ?_
  exact ⟨S.up m, ⟨hw.up m hm, (find_up hw hm hup).trans hf⟩, find_step hw hm hup, ⟨rfl, rfl, trivial⟩, trivial, rfl⟩
 ·have hup : S.up m = m := by
   show S.above.getD m 0 = m
   have := of_decide_eq_false (p := ¬ ((S.above.getD m 0 : Nat) : Int) = m) (by simpa using ht)
   omega
  refine s_seq (s_region ?_)
  refine s_val rfl rfl rfl rfl <| s_val rfl rfl rfl rfl <| s_nil ?_
  refine s_ret ⟨.inr rfl, _, rfl, ?_, rfl⟩
  rw [← hf, find_self hup]
  rfl
end Go.Dv.Us
/- known, form. -/
namespace Go.Dv.Us
open Go.Dv.K Go.Proofs
theorem known_ret {h : Hp} {s : Nat} {S : Store} {p : At} (hS : StoreAt h s S p) {v : AV} {l : List Nat} (hl : RowN h.get v l) (hlen : l.length < 2 ^ 40) :
  Ret ctx Or Xo 68 [.ptr s 0 0, v] h (fun w h' => w = vbool (l.all fun n => Nat.blt n S.nodes.length) ∧ h' = h) := by
 refine body (env := [(0, .ptr s 0 0), (1, v)]) (rs := [.tmp 4]) Tryz.func68 rfl rfl Tryz.ntmps68 rfl rfl ?_
 refine s_seq (s_region ?_)
 refine s_val rfl rfl rfl rfl <| s_nil ?_
 refine s_seq (s_seq (s_region ?_))
 refine s_val rfl rfl rfl rfl ?_
 refine s_val rfl (o_lenV rfl rfl (args1 rfl hl.isL) rfl (hl.lenKind rfl) hl.len) rfl rfl ?_
 refine s_val rfl rfl rfl rfl <| s_nil <| s_block ?_
 refine s_rounds (ι := Nat) (fun i => ⟨[(0, .ptr s 0 0), (7, v), (8, vint l.length), (9, vint i)], [], h⟩) (fun i => i ≤ l.length ∧ ∀ j, j < i → l.getD j 0 < S.nodes.length) (fun i => l.length - i) ?_ 0 ⟨Nat.zero_le _, fun j h => absurd h (Nat.not_lt_zero _)⟩ ⟨⟨rfl, rfl, rfl, rfl, trivial⟩, trivial, rfl⟩
 rintro i ⟨hi, hj⟩
 refine s_seq (s_region ?_)
 refine s_val rfl rfl rfl rfl <| s_nil <| s_seq ?_
 refine s_if rfl (fun ht => s_skip ?_) (fun ht => s_exit ?_)
 ·have hi : i < l.length := Int.ofNat_lt.1 (of_decide_eq_true ht)
  obtain ⟨q, hq1, hq2⟩ := hl.read (C := ctx) (L := lk []) hi (t := 72) (e := 3) rfl rfl rfl rfl
  refine s_seq (s_block (s_seq (s_region ?_)))
  refine s_val rfl (o_indexV rfl rfl rfl hq1) rfl rfl ?_
  refine s_val rfl (o_loadV rfl rfl hq2) rfl rfl ?_
  refine s_val rfl rfl rfl rfl <| s_nil ?_
  refine s_seq (s_region ?_)
  refine s_val rfl rfl rfl rfl ?_
  refine s_val rfl (o_eq rfl (congrArg vbool (decide_eq_false (Int.not_lt.2 (Int.natCast_nonneg _))))) rfl rfl ?_
  iterate 5 refine s_val rfl rfl rfl rfl ?_
  refine s_val rfl (o_load rfl rfl rfl hS.st rfl rfl) rfl rfl ?_
  refine s_val rfl (o_lenV rfl rfl (args1 rfl hS.hn.cell.2.1) rfl (hS.hn.lenKind rfl) hS.hn.lenA_eq) rfl rfl ?_
  refine s_val rfl rfl rfl rfl <| s_val rfl rfl rfl rfl <| s_nil ?_
  refine s_if rfl (fun hu => ?_) (fun hu => s_skip ?_)
  ·refine s_seq (s_region ?_)
   refine s_val rfl rfl rfl rfl <| s_nil ?_
   refine s_ret ⟨.inr rfl, _, rfl, ?_, rfl⟩
   have hge : S.nodes.length ≤ l.getD i 0 := Int.ofNat_le.1 (of_decide_eq_true hu)
   have : (l.all fun n => Nat.blt n S.nodes.length) = false := by
    rw [List.all_eq_false]
    refine ⟨l.getD i 0, ?_, ?_⟩
    ·rw [List.getD_eq_getElem?_getD, List.getElem?_eq_getElem hi]; simp
    ·intro hb; have := lt_of_blt hb; omega
   rw [this]; rfl
  ·have hlt : l.getD i 0 < S.nodes.length := by
    have := of_decide_eq_false hu
    omega
   refine s_region ?_
   refine s_val rfl (o_eq rfl (wrap_succ (by omega))) rfl rfl ?_
   refine s_val rfl rfl rfl rfl <| s_nil ?_
   refine ⟨i + 1, ⟨hi, fun j hj' => ?_⟩, by omega, ⟨rfl, rfl, rfl, rfl, trivial⟩, trivial, rfl⟩
   rcases Nat.lt_succ_iff_lt_or_eq.1 hj' with h1 | h1
   ·exact hj j h1
   ·subst h1; exact hlt
 ·have hi' : i = l.length := by
   have := of_decide_eq_false ht
   omega
  refine s_seq (s_region ?_)
  refine s_val rfl rfl rfl rfl <| s_nil ?_
  refine s_ret ⟨.inr rfl, _, rfl, ?_, rfl⟩
  have : (l.all fun n => Nat.blt n S.nodes.length) = true := by
   rw [List.all_eq_true]
   intro x hx
   obtain ⟨j, hj1, hj2⟩ := List.getElem_of_mem hx
   have := hj j (by omega)
   rw [List.getD_eq_getElem?_getD, List.getElem?_eq_getElem hj1, Option.getD_some, hj2] at this
   exact Nat.ble_eq_true_of_le this
  rw [this]; rfl
end Go.Dv.Us
/- form, add. -/
namespace Go.Dv.Us
open Go.Dv.K Go.Proofs
def UNode.agg (x : UNode) : AV := .d (.agg x.cells)
theorem node_cells (x : UNode) : x.agg.cells.all AV.isCell = true := by
 cases x with
 | mk k n a b => cases b <;> rfl
theorem readNode {h : Hp} {v : AV} {len : Nat} {l : List UNode} (r : RowAt h 3 v len (nav l)) {i : Nat} {x : UNode} (hx : l[i]? = some x) :
  ∃ q, indexAddrA ctx 115 v (vint i) = some q ∧ ∀ L, loadA ctx L h.get 123 q = some x.agg := by
 have hc := r.clen
 rw [nav_length] at hc
 have hi : i < l.length := (List.getElem?_eq_some_iff.1 hx).1
 exact r.read (by omega) rfl rfl rfl (nav_get hx) rfl
theorem formN_lt {S : Store} (hw : Wf S) {n : Nat} (h : n < S.nodes.length) : S.formN n < S.nodes.length := hw.form _ (find_lt hw h)
theorem form_get {S : Store} (hw : Wf S) {n : Nat} (h : n < S.nodes.length) : S.nodes[S.formN n]? = some (S.form n) := by
 have := formN_lt hw h
 simp [Store.form, this]
theorem form_ret {h : Hp} {s : Nat} {S : Store} {p : At} (hS : StoreAt h s S p) (hw : Wf S) (n : Nat) (hn : n < S.nodes.length) :
  Ret ctx Or Xo 72 [.ptr s 0 0, vint n] h (fun v h' => v = (S.form n).agg ∧ h' = h) := by
 refine body (env := [(0, .ptr s 0 0), (1, vint n)]) (rs := [.cell 4 123]) Tryz.func72 rfl rfl Tryz.ntmps72 rfl rfl ?_
 refine s_seq <| s_region ?_
 refine s_newL rfl rfl rfl rfl rfl ?_
 refine s_nil <| s_seq ?_
 obtain ⟨q, hq1, hq2⟩ := read1 hS.hf (find_lt hw hn) (C := ctx) (t := 72) (e := 3) rfl rfl rfl rfl
 obtain ⟨q', hq3, hq4⟩ := readNode hS.hn (form_get hw hn)
 refine s_drawn { ord := [0, 1, 2, 3, 4, 5, 6, 7, 8, 9, 10, 11, 12, 13, 14, 15], wr := 33792, fl := [(3, 11), (7, 11)], cl := [0, 1, 3, 7, 0, 16, 48, 112, 0, 0, 768, 2032, 4080, 8191, 16383, 32767] } (by kernel_rfl) ?_
 iterate 3 refine d_val rfl rfl rfl rfl rfl ?_
 refine d_val rfl rfl (o_load rfl rfl rfl hS.st rfl rfl) rfl rfl ?_
 iterate 3 refine d_val rfl rfl rfl rfl rfl ?_
 refine d_val rfl rfl (o_load rfl rfl rfl hS.st rfl rfl) rfl rfl ?_
 refine d_val rfl rfl rfl rfl rfl <| d_val rfl rfl rfl rfl rfl ?_
 refine d_ret1 (find_ret hS hw n hn) rfl rfl rfl rfl rfl ?_
 rintro _ _ ⟨rfl, rfl⟩
 refine d_val rfl rfl (o_indexV rfl rfl rfl hq1) rfl rfl ?_
 refine d_val rfl rfl (o_loadV rfl rfl (hq2 _)) rfl rfl ?_
 refine d_val rfl rfl (o_indexV rfl rfl rfl hq3) rfl rfl ?_
 refine d_val rfl rfl (o_loadV rfl rfl (hq4 _)) rfl rfl ?_
 refine d_setL rfl rfl (o_storeL rfl rfl rfl rfl rfl rfl (node_cells _) rfl (Nat.le_refl 3)) rfl ?_
 refine d_nil ⟨⟨fun _ _ _ => rfl, fun _ _ _ => rfl, trivial⟩, trivial, ?_⟩
 refine s_ret ?_
 exact ⟨.inr rfl, _, rfl, rfl, rfl⟩
end Go.Dv.Us
/- add. -/
namespace Go.Dv.Us
open Go.Dv.K Go.Proofs
theorem nav_append (l m : List UNode) : nav (l ++ m) = nav l ++ nav m := by simp [nav]
theorem nats_append (l m : List Nat) : nats (l ++ m) = nats l ++ nats m := by simp [nats]
theorem add_ret {h : Hp} {s : Nat} {S : Store} {p : At} (hS : StoreAt h s S p) (hsz : S.nodes.length ≤ 2 ^ 20) (x : UNode) :
  Ret ctx Or Xo 67 [.ptr s 0 0, x.agg] h (fun v h' => v = vint S.nodes.length ∧ ∃ p', StoreAt h' s (S.add x) p' ∧ Fram h h' (p.own s) (p'.own s)) := by
 refine body (env := [(0, .ptr s 0 0), (1, x.agg)]) (rs := [.tmp 4]) Tryz.func67 rfl rfl Tryz.ntmps67 rfl rfl ?_
 refine s_seq <| s_region ?_
 refine s_newL rfl (o_boxL rfl rfl rfl rfl rfl rfl (node_cells x) rfl) rfl rfl rfl ?_
 refine s_val rfl rfl rfl rfl <| s_nil <| s_seq <| s_region ?_
 iterate 3 refine s_val rfl rfl rfl rfl ?_
 refine s_val rfl (o_load rfl rfl rfl hS.st rfl rfl) rfl rfl ?_
 refine s_val rfl (o_lenV rfl rfl (args1 rfl hS.hn.cell.2.1) rfl (hS.hn.lenKind rfl) hS.hn.lenA_eq) rfl rfl ?_
 refine s_val rfl rfl rfl rfl <| s_nil <| s_seq ?_
 refine s_drawn { ord := [0, 1, 2, 3, 4, 5, 6, 7, 8, 9, 10], wr := 1152, cl := [0, 0, 2, 6, 14, 0, 32, 126, 255, 511, 1023] } (by kernel_rfl) ?_
 iterate 4 refine d_val rfl rfl rfl rfl rfl ?_
 refine d_val rfl rfl (o_load rfl rfl rfl hS.st rfl rfl) rfl rfl ?_
 refine d_val rfl rfl rfl rfl rfl ?_
 refine d_val rfl rfl (o_bs1 (cs := x.cells) rfl rfl rfl rfl rfl rfl rfl rfl (node_cells x) rfl (by decide) rfl) rfl rfl ?_
 refine d_append hS.hn rfl rfl rfl rfl (args2 rfl hS.hn.cell.2.1 rfl rfl) rfl rfl rfl rfl rfl rfl (by decide) rfl (new := x.cells.map .d) rfl (node_cells x) (by decide) rfl (by decide) (by omega) rfl rfl ?_
 intro h1 v1 L1
 obtain ⟨R1, F1⟩ := hS.toRows4.put_n L1
 refine d_val rfl rfl rfl rfl rfl <| d_val rfl rfl rfl rfl rfl ?_
 refine d_setH rfl rfl (o_store1 rfl rfl rfl rfl rfl L1.row.cell.2.2 L1.row.cell.2.1 L1.row.cell.1 ((L1.keep s hS.lt hS.sn).trans hS.st) (Nat.le_of_ble_eq_true rfl)) rfl ?_
 refine d_nil ⟨trivial, trivial, ?_⟩
 refine s_seq <| s_region ?_
 iterate 4 refine s_val rfl rfl rfl rfl ?_
 refine s_val rfl (o_load rfl rfl rfl R1.st rfl rfl) rfl rfl ?_
 refine s_val rfl rfl rfl rfl <| s_val rfl rfl rfl rfl ?_
 refine s_append R1.ha rfl rfl rfl (args2 rfl R1.ha.cell.2.1 rfl rfl) rfl rfl rfl rfl rfl rfl (by decide) rfl (new := nats [S.nodes.length]) rfl rfl (by decide) rfl (by decide) (by omega) rfl rfl ?_
 intro h2 v2 L2
 obtain ⟨R2, F2⟩ := R1.put_a L2
 refine s_val rfl rfl rfl rfl <| s_val rfl rfl rfl rfl ?_
 refine s_setH rfl (o_store1 rfl rfl rfl rfl rfl L2.row.cell.2.2 L2.row.cell.2.1 L2.row.cell.1 ((L2.keep s R1.lt R1.sa).trans R1.st) (Nat.le_of_ble_eq_true rfl)) rfl ?_
 refine s_nil <| s_seq <| s_region ?_
 iterate 4 refine s_val rfl rfl rfl rfl ?_
 refine s_val rfl (o_load rfl rfl rfl R2.st rfl rfl) rfl rfl ?_
 refine s_val rfl rfl rfl rfl ?_
 refine s_append R2.hr rfl rfl rfl (args2 rfl R2.hr.cell.2.1 rfl rfl) rfl rfl rfl rfl rfl rfl (by decide) rfl (new := nats [0]) rfl rfl (by decide) rfl (by decide) (by omega) rfl rfl ?_
 intro h3 v3 L3
 obtain ⟨R3, F3⟩ := R2.put_r L3
 refine s_val rfl rfl rfl rfl <| s_val rfl rfl rfl rfl ?_
 refine s_setH rfl (o_store1 rfl rfl rfl rfl rfl L3.row.cell.2.2 L3.row.cell.2.1 L3.row.cell.1 ((L3.keep s R2.lt R2.sr).trans R2.st) (Nat.le_of_ble_eq_true rfl)) rfl ?_
 refine s_nil <| s_seq <| s_region ?_
 iterate 4 refine s_val rfl rfl rfl rfl ?_
 refine s_val rfl (o_load rfl rfl rfl R3.st rfl rfl) rfl rfl ?_
 refine s_val rfl rfl rfl rfl <| s_val rfl rfl rfl rfl ?_
 refine s_append R3.hf rfl rfl rfl (args2 rfl R3.hf.cell.2.1 rfl rfl) rfl rfl rfl rfl rfl rfl (by decide) rfl (new := nats [S.nodes.length]) rfl rfl (by decide) rfl (by decide) (by omega) rfl rfl ?_
 intro h4 v4 L4
 obtain ⟨R4, F4⟩ := R3.put_f L4
 refine s_val rfl rfl rfl rfl <| s_val rfl rfl rfl rfl ?_
 refine s_setH rfl (o_store1 rfl rfl rfl rfl rfl L4.row.cell.2.2 L4.row.cell.2.1 L4.row.cell.1 ((L4.keep s R3.lt R3.sf).trans R3.st) (Nat.le_of_ble_eq_true rfl)) rfl ?_
 refine s_nil <| s_seq <| s_region <| s_val rfl rfl rfl rfl <| s_val rfl rfl rfl rfl <| s_nil <| s_ret ?_
 refine ⟨.inr rfl, _, rfl, rfl, _, ⟨?_, ?_, ?_, ?_⟩, ((F1.trans F2).trans F3).trans F4⟩
 ·have hl : (S.add x).nodes.length = S.nodes.length + 1 := by simp [Store.add]
  have e1 : nav S.nodes ++ x.cells.map .d = nav (S.add x).nodes := by simp only [Store.add, nav_append]; simp [nav]
  have e2 : nats S.above ++ nats [S.nodes.length] = nats (S.add x).above := by simp only [Store.add, nats_append]
  have e3 : nats S.ranks ++ nats [0] = nats (S.add x).ranks := by simp only [Store.add, nats_append]
  have e4 : nats S.forms ++ nats [S.nodes.length] = nats (S.add x).forms := by simp only [Store.add, nats_append]
  rw [hl, ← e1, ← e2, ← e3, ← e4]
  exact R4
 ·simp [Store.add, hS.la]
 ·simp [Store.add, hS.lr]
 ·simp [Store.add, hS.lf]
end Go.Dv.Us
/- Var, Arrow, Clone, Con, Pair. -/
namespace Go.Dv.Us
open Go.Dv.K Go.Proofs
/-- Memory to which something was added. -/
structure Ext (h h' : Hp) : Prop where
 next : h.next ≤ h'.next
 keep : ∀ id, id < h.next → h'.get id = h.get id
theorem Ext.refl (h : Hp) : Ext h h := ⟨Nat.le_refl _, fun _ _ => rfl⟩
theorem Ext.trans {h h1 h2 : Hp} (a : Ext h h1) (b : Ext h1 h2) : Ext h h2 := ⟨Nat.le_trans a.next b.next, fun id hl => (b.keep id (Nat.lt_of_lt_of_le hl a.next)).trans (a.keep id hl)⟩
theorem Ext.fram {h h' : Hp} (a : Ext h h') (own : List Nat) : Fram h h' own own := ⟨a.next, fun id h1 _ => a.keep id h1, fun _ h1 => .inl h1⟩
theorem Ext.newC (h : Hp) (cs : List AV) (e : TypeId) : Ext h (h.newC cs e) := ⟨Nat.le_succ _, fun id hl => if_neg (by omega)⟩
theorem Ext.newV (h : Hp) (cs : List AV) (e : TypeId) : Ext h (h.newV cs e) := ⟨Nat.le_succ _, fun id hl => if_neg (by omega)⟩
theorem Ext.alloc (h : Hp) (ob : Obj) : Ext h (h.alloc ob) := ⟨Nat.le_succ _, fun id hl => if_neg (by omega)⟩
theorem Ext.set {h h' : Hp} (a : Ext h h') {id : Nat} {ob : Obj} (hi : h.next ≤ id) : Ext h (h'.set id ob) := ⟨a.next, fun i hl => (Hp.get_set_ne (by omega)).trans (a.keep i hl)⟩
theorem Ext.grown {h h' : Hp} (a : Ext h h') {id : Nat} {cs : List AV} {ver : Nat} {e : TypeId} (hi : h.next ≤ id) : Ext h (h'.grown id cs ver e) := ⟨a.next, fun i hl => (by rw [Hp.get_grown, if_neg (by omega)]; exact a.keep i hl)⟩
theorem Ext.del {h h' : Hp} (a : Ext h h') {id : Nat} (hi : h.next ≤ id) : Ext h (h'.del id) := ⟨a.next, fun i hl => (by show (if i = id then none else h'.get i) = _; rw [if_neg (by omega)]; exact a.keep i hl)⟩
theorem StoreAt.ext {h h' : Hp} {s : Nat} {S : Store} {p : At} (R : StoreAt h s S p) (e : Ext h h') : StoreAt h' s S p := R.keep e.next fun id hm => e.keep id (R.toRows4.olt id hm)
def varN : UNode := ⟨1, [], [], true⟩
def arrowN (a b : Nat) : UNode := ⟨4, [], [a, b], false⟩
/-- What a call that adds a node answers. -/
def Added (h : Hp) (s : Nat) (S : Store) (p : At) (x : UNode) (h' : Hp) : Prop := ∃ p', StoreAt h' s (S.add x) p' ∧ Fram h h' (p.own s) (p'.own s)
theorem var_ret {h : Hp} {s : Nat} {S : Store} {p : At} (hS : StoreAt h s S p) (hsz : S.nodes.length ≤ 2 ^ 20) :
  Ret ctx Or Xo 29 [.ptr s 0 0] h (fun v h' => v = vint S.nodes.length ∧ Added h s S p varN h') := by
 refine body (env := [(0, .ptr s 0 0)]) (rs := [.tmp 2]) Tryz.func29 rfl rfl Tryz.ntmps29 rfl rfl ?_
 refine s_seq <| s_region <| s_val rfl rfl rfl rfl <| s_nil <| s_seq <| s_region <| s_val rfl rfl rfl rfl <| s_val rfl rfl rfl rfl ?_
 refine s_ret1 (add_ret hS hsz varN) rfl rfl rfl rfl ?_
 rintro _ h' ⟨rfl, hA⟩
 refine s_val rfl rfl rfl rfl <| s_nil <| s_ret ?_
 exact ⟨.inr rfl, _, rfl, rfl, hA⟩
theorem arrow_ret {h : Hp} {s : Nat} {S : Store} {p : At} (hS : StoreAt h s S p) (hsz : S.nodes.length ≤ 2 ^ 20) {a b : Nat} (ha : a < S.nodes.length) (hb : b < S.nodes.length) :
  Ret ctx Or Xo 30 [.ptr s 0 0, vint a, vint b] h (fun v h' => v = .tuple [vint S.nodes.length, vint 0] ∧ Added h s S p (arrowN a b) h') := by
 refine body (env := [(0, .ptr s 0 0), (1, vint a), (2, vint b)]) (rs := [.tmp 6, .tmp 7]) Tryz.func30 rfl rfl Tryz.ntmps30 rfl rfl ?_
 have e1 : Ext h (h.newC (nats [a, b]) 3) := Ext.newC ..
 refine s_seq <| s_region <| s_val rfl rfl rfl rfl <| s_val rfl rfl rfl rfl <| s_nil <| s_seq <| s_seq <| s_region ?_
 iterate 3 refine s_val rfl rfl rfl rfl ?_
 refine s_newCells rfl rfl rfl rfl ?_
 refine s_ret1 (known_ret (hS.ext e1) (l := [a, b]) (.row (if_pos rfl) rfl) (by simp)) rfl rfl rfl rfl ?_
 rintro _ _ ⟨rfl, rfl⟩
 have hk : ([a, b].all fun n => Nat.blt n S.nodes.length) = true := by
  simp only [List.all_cons, List.all_nil, Bool.and_true, Bool.and_eq_true]
  exact ⟨Nat.ble_eq_true_of_le ha, Nat.ble_eq_true_of_le hb⟩
 rw [hk]
 refine s_val rfl rfl rfl rfl <| s_nil <| s_cond_f rfl <| s_skip <| s_seq <| s_region ?_
 iterate 5 refine s_val rfl rfl rfl rfl ?_
 refine s_ret1 (add_ret (hS.ext e1) hsz (arrowN a b)) rfl rfl rfl rfl ?_
 rintro _ h' ⟨rfl, p', hA, hF⟩
 refine s_val rfl rfl rfl rfl <| s_val rfl rfl rfl rfl <| s_nil <| s_ret ?_
 exact ⟨.inr rfl, _, rfl, rfl, p', hA, (e1.fram _).trans hF⟩
/-! ### Clone -/
def isNilS : AV → Bool
 | .d .nilslice => true
 | _ => false
def frozen (v : AV) (l : List Nat) : DV := if isNilS v then .nilslice else .imm (ints l) l.length
theorem frzL_map {f : Hp → AV → Option (DV × Hp)} (hf : ∀ h y, f h (.d y) = some (y, h)) : ∀ (cs : List DV) (h : Hp), frzL f h (cs.map .d) = some (cs, h)
 | [], _ => rfl
 | c :: cs, h => by simp only [List.map_cons, frzL, hf, frzL_map hf cs]
theorem nats_map (l : List Nat) : nats l = (ints l).map .d := by simp [nats, ints, vint]
theorem takeExact_all {α : Type} {l : List α} {n : Nat} (h : n = l.length) : takeExact n 0 l = some l := by
 subst h
 unfold takeExact
 simp
theorem frz_row {h : Hp} {id ver : Nat} {l : List Nat} (hg : h.get id = some (.cells (nats l) ver)) : frzV 400 h (.msl id 0 l.length ver 1) = some (.imm (ints l) l.length, h.del id) := by
 have ht : takeExact (l.length * 1) 0 (nats l) = some (nats l) := takeExact_all (by rw [nats_length, Nat.mul_one])
 show (match h.get id with
  | some (.cells cs v) => if v = ver then match takeExact (l.length * 1) 0 cs with
    | some r => match frzL (frzV 399) (h.del id) r with
     | some (ds, h') => some (DV.imm ds l.length, h')
     | none => none
    | none => none
   else none
  | _ => none) = _
 rw [hg]
 simp only [if_true, ht]
 rw [nats_map, frzL_map (fun h y => rfl)]
theorem _root_.Go.Dv.RowN.elems {H : Nat → Option Obj} {v : AV} {l : List Nat} (r : RowN H v l) : elemsOf H 1 v = some (nats l) := by
 cases r with
 | nil => rfl
 | imm =>
  have ht : takeExact (l.length * 1) 0 (ints l) = some (ints l) := takeExact_all (by simp [ints])
  show (match takeExact (l.length * 1) 0 (ints l) with
   | some r => some (r.map AV.d)
   | none => none) = _
  rw [ht, nats_map]
 | row hg hc =>
  simp only [elemsOf, hg]
  rw [if_pos (by simp)]
  unfold takeExact
  simp only [List.drop_zero, Nat.mul_one, hc]
  rw [if_pos (nats_length l)]
theorem nats_cells (l : List Nat) : (nats l).all AV.isCell = true := by
 rw [List.all_eq_true]
 intro x hx
 simp only [nats, List.mem_map] at hx
 obtain ⟨n, _, rfl⟩ := hx
 rfl
theorem clone_ret {h : Hp} {v : AV} {l : List Nat} (r : RowN h.get v l) (hlt : ∀ id ∈ v.own, id < h.next) (hlen : l.length ≤ 2 ^ 20) :
  Ret ctx Or Xo 123 [v] h (fun w h' => ∃ h'', frzV 400 h' w = some (frozen v l, h'') ∧ Ext h h'') := by
 refine body (env := [(0, v)]) (rs := [.tmp 2]) Tryz.func123 rfl rfl Tryz.ntmps123 rfl rfl ?_
 refine s_seq <| s_region <| s_val rfl rfl rfl rfl <| s_nil <| s_seq <| s_seq <| s_region <| s_val rfl rfl rfl rfl ?_
 by_cases hnil : isNilS v = true
 ·have hv : v = .d .nilslice := by
   cases v with
   | d x => cases x <;> first | rfl | cases hnil
   | _ => cases hnil
  subst hv
  refine s_val rfl rfl rfl rfl <| s_nil <| s_cond_t rfl <| s_seq <| s_region <| s_val rfl rfl rfl rfl <| s_nil <| s_ret ?_
  exact ⟨.inr rfl, _, rfl, h, rfl, Ext.refl h⟩
 ·have hn2 : isNilS v = false := by simpa using hnil
  refine s_val (v := vbool false) rfl ?_ rfl rfl ?_
  ·cases r with
   | nil => cases hn2
   | imm => rfl
   | row => rfl
  refine s_nil <| s_cond_f rfl <| s_skip <| s_seq ?_
  have e1 : Ext h (h.newC [] 3) := Ext.newC ..
  have r1 : RowN (h.newC [] 3).get v l := by
   cases r with
   | nil => exact .nil
   | imm => exact .imm
   | row hg hc => exact .row ((e1.keep _ (hlt _ (by simp [AV.own]))).trans hg) hc
  refine s_region ?_
  refine s_newCells rfl rfl rfl rfl ?_
  refine s_val rfl rfl rfl rfl ?_
  refine s_grow rfl (o_append rfl rfl (args2 rfl rfl rfl r1.isL) rfl (appendA_row rfl rfl rfl rfl (by decide) r1.len r1.elems (nats_cells l) (by omega) (by show (nats l).length = l.length * 1; rw [nats_length, Nat.mul_one]) (if_pos rfl) rfl (by decide))) rfl rfl ?_
  refine s_val rfl rfl rfl rfl <| s_nil <| s_ret ?_
  refine ⟨.inr rfl, _, rfl, ((h.newC [] 3).grown h.next ([] ++ nats l) (0 + 1) 3).del h.next, ?_, (e1.grown (Nat.le_refl _)).del (Nat.le_refl _)⟩
  have : frozen v l = .imm (ints l) l.length := by simp [frozen, hn2]
  rw [this]
  have h2 := frz_row (h := (h.newC [] 3).grown h.next ([] ++ nats l) (0 + 1) 3) (id := h.next) (ver := 1) (l := l) (Hp.get_grown.trans (if_pos rfl))
  show frzV 400 _ (.msl h.next 0 (0 + l.length) (0 + 1) 1) = _
  rw [Nat.zero_add]
  exact h2
end Go.Dv.Us
/- Con, Pair. -/
namespace Go.Dv.Us
open Go.Dv.K Go.Proofs
/-- What lex.Kind answers. -/
def KindOk (K : List UInt8 → Int) : Prop := ∀ (name : List UInt8) (h : Hp), name.length ≤ 2 ^ 30 → Ret ctx Or Xo 45 [.d (.str name)] h (fun v h' => v = vint (K name) ∧ h' = h)
def argsN (k : Nat) (name : List UInt8) (v : AV) (l : List Nat) : UNode := ⟨k, name, l, isNilS v⟩
theorem argsD_N (k : Nat) (name : List UInt8) {H : Nat → Option Obj} {v : AV} {l : List Nat} : (argsN k name v l).argsD = frozen v l := rfl
theorem all_known {S : Store} {l : List Nat} (hl : ∀ n ∈ l, n < S.nodes.length) : (l.all fun n => Nat.blt n S.nodes.length) = true := by
 rw [List.all_eq_true]
 exact fun n hn => Nat.ble_eq_true_of_le (hl n hn)
theorem frozen_cases (v : AV) (l : List Nat) : frozen v l = .nilslice ∨ ∃ c n, frozen v l = .imm c n := by
 unfold frozen
 split
 ·exact .inl rfl
 ·exact .inr ⟨_, _, rfl⟩
theorem frozen_cell (v : AV) (l : List Nat) : (frozen v l).isAgg = false := by
 unfold frozen
 split <;> rfl
theorem frozen_isCell (v : AV) (l : List Nat) : AV.isCell (.d (frozen v l)) = true := by
 unfold frozen
 split <;> rfl
theorem frozen_cells (v : AV) (l : List Nat) : AV.cells (.d (frozen v l)) = [.d (frozen v l)] := by
 unfold frozen
 split <;> rfl
theorem con_ret {K : List UInt8 → Int} (hK : KindOk K) {h : Hp} {s : Nat} {S : Store} {p : At} (hS : StoreAt h s S p) (hsz : S.nodes.length ≤ 2 ^ 20) {v : AV} {l : List Nat} (r : RowN h.get v l) (hlt : ∀ id ∈ v.own, id < h.next) (hlen : l.length ≤ 2 ^ 20)
  (hl : ∀ n ∈ l, n < S.nodes.length) {name : List UInt8} (hn : name.length ≤ 2 ^ 30) (hk : K name = 1) :
  Ret ctx Or Xo 65 [.ptr s 0 0, .d (.str name), v] h (fun w h' => w = .tuple [vint S.nodes.length, vint 0] ∧ Added h s S p (argsN 2 name v l) h') := by
 refine body (env := [(0, .ptr s 0 0), (1, .d (.str name)), (2, v)]) (rs := [.tmp 6, .tmp 7]) Tryz.func65 rfl rfl Tryz.ntmps65 rfl rfl ?_
 refine s_seq <| s_region <| s_val rfl rfl rfl rfl <| s_val rfl rfl rfl rfl <| s_nil <| s_seq <| s_seq <| s_region <| s_val rfl rfl rfl rfl <| s_val rfl rfl rfl rfl ?_
 refine s_ret1 (known_ret hS r (by omega)) rfl (c_val rfl rfl rfl (args2 rfl rfl rfl r.isL)) rfl rfl ?_
 rintro _ _ ⟨rfl, rfl⟩
 rw [all_known hl]
 refine s_val rfl rfl rfl rfl <| s_nil <| s_cond_f rfl <| s_skip <| s_seq <| s_seq <| s_region <| s_val rfl rfl rfl rfl ?_
 refine s_ret1 (hK name _ hn) rfl rfl rfl rfl ?_
 rintro _ _ ⟨rfl, rfl⟩
 rw [hk]
 refine s_val rfl rfl rfl rfl <| s_nil <| s_cond_f rfl <| s_skip <| s_seq <| s_region ?_
 iterate 3 refine s_val rfl rfl rfl rfl ?_
 refine s_retF (clone_ret r hlt hlen) rfl (c_val rfl rfl rfl (args1 rfl r.isL)) rfl rfl rfl ?_
 rintro w h1 ⟨h2, hz, e2⟩
 refine ⟨_, _, hz, ?_⟩
 refine s_val (v := (argsN 2 name v l).agg) rfl ?_ rfl rfl ?_
 ·show _ = some (Eff.val (.d (.agg [.int .i64 2, .str name, frozen v l])))
  have hy := frozen_cases v l
  generalize frozen v l = y at hy ⊢
  rcases hy with rfl | ⟨c, n, rfl⟩ <;> rfl
 refine s_ret1 (add_ret (hS.ext e2) hsz (argsN 2 name v l)) rfl rfl rfl rfl ?_
 rintro _ h3 ⟨rfl, p', hA, hF⟩
 refine s_val rfl rfl rfl rfl <| s_val rfl rfl rfl rfl <| s_nil <| s_ret ?_
 exact ⟨.inr rfl, _, rfl, rfl, p', hA, (e2.fram _).trans hF⟩
theorem pair_ret {h : Hp} {s : Nat} {S : Store} {p : At} (hS : StoreAt h s S p) (hsz : S.nodes.length ≤ 2 ^ 20) {v : AV} {l : List Nat} (r : RowN h.get v l) (hlt : ∀ id ∈ v.own, id < h.next) (hlen : l.length ≤ 2 ^ 20)
  (hl : ∀ n ∈ l, n < S.nodes.length) (h2 : 2 ≤ l.length) :
  Ret ctx Or Xo 66 [.ptr s 0 0, v] h (fun w h' => w = .tuple [vint S.nodes.length, vint 0] ∧ Added h s S p (argsN 3 [] v l) h') := by
 refine body (env := [(0, .ptr s 0 0), (1, v)]) (rs := [.tmp 4, .tmp 5]) Tryz.func66 rfl rfl Tryz.ntmps66 rfl rfl ?_
 refine s_seq <| s_region <| s_val rfl rfl rfl rfl <| s_val rfl rfl rfl rfl <| s_nil <| s_seq <| s_seq <| s_region <| s_val rfl rfl rfl rfl <| s_val rfl rfl rfl rfl ?_
 refine s_ret1 (known_ret hS r (by omega)) rfl (c_val rfl rfl rfl (args2 rfl rfl rfl r.isL)) rfl rfl ?_
 rintro _ _ ⟨rfl, rfl⟩
 rw [all_known hl]
 refine s_val rfl rfl rfl rfl <| s_nil <| s_cond_f rfl <| s_skip <| s_seq <| s_seq <| s_region <| s_val rfl rfl rfl rfl ?_
 refine s_val rfl (o_lenV rfl rfl (args1 rfl r.isL) rfl (r.lenKind rfl) r.len) rfl rfl ?_
 refine s_val rfl (o_eq rfl (congrArg vbool (decide_eq_false (by omega)))) rfl rfl ?_
 refine s_nil <| s_cond_f rfl <| s_skip <| s_seq <| s_region <| s_val rfl rfl rfl rfl <| s_val rfl rfl rfl rfl ?_
 refine s_retF (clone_ret r hlt hlen) rfl (c_val rfl rfl rfl (args1 rfl r.isL)) rfl rfl rfl ?_
 rintro w h1 ⟨h2, hz, e2⟩
 refine ⟨_, _, hz, ?_⟩
 refine s_val (v := (argsN 3 [] v l).agg) rfl ?_ rfl rfl ?_
 ·show _ = some (Eff.val (.d (.agg [.int .i64 3, .str [], frozen v l])))
  have hy := frozen_cases v l
  generalize frozen v l = y at hy ⊢
  rcases hy with rfl | ⟨c, n, rfl⟩ <;> rfl
 refine s_ret1 (add_ret (hS.ext e2) hsz (argsN 3 [] v l)) rfl rfl rfl rfl ?_
 rintro _ h3 ⟨rfl, p', hA, hF⟩
 refine s_val rfl rfl rfl rfl <| s_val rfl rfl rfl rfl <| s_nil <| s_ret ?_
 exact ⟨.inr rfl, _, rfl, rfl, p', hA, (e2.fram _).trans hF⟩
end Go.Dv.Us
/- Writing one number of a store's rows. -/
namespace Go.Dv.Us
open Go.Dv.K Go.Proofs
theorem nats_set {l : List Nat} {i z : Nat} (h : i < l.length) : putAt (nats l) (i * 1) [vint z] = nats (l.set i z) := by
 rw [Nat.mul_one]
 apply List.ext_getElem?
 intro j
 simp only [putAt, nats, List.length_cons, List.length_nil]
 rcases Nat.lt_trichotomy j i with h1 | h1 | h1
 ·rw [List.getElem?_append_left (by simp; omega), List.getElem?_append_left (by simp; omega)]
  simp [List.getElem?_take_of_lt h1, List.getElem?_set, show i ≠ j by omega]
 ·subst h1
  rw [List.getElem?_append_left (by simp; omega), List.getElem?_append_right (by simp; omega)]
  simp [h, show min j l.length = j by omega]
 ·rw [List.getElem?_append_right (by simp; omega)]
  simp only [List.getElem?_drop, List.getElem?_map, List.getElem?_set, show i ≠ j by omega, if_false]
  congr 2
  simp; omega
theorem StoreAt.set_a {h : Hp} {s : Nat} {S : Store} {p : At} (hS : StoreAt h s S p) {i : Nat} (hi : i < S.nodes.length) (z : Nat) :
  ∃ q id ob, indexAddrA ctx 72 p.a (vint i) = some q ∧ (∀ L, storeA ctx L h.get 3 q (vint z) = some (.setH id ob none)) ∧ StoreAt (h.set id ob) s { S with above := S.above.set i z } p ∧ Fram h (h.set id ob) (p.own s) (p.own s) := by
 obtain ⟨q, id, ver, hv, hq1, hq2⟩ := hS.ha.write (C := ctx) (w := vint z) hi (t := 72) (e := 3) rfl rfl rfl rfl rfl rfl
 have hid : id ∈ p.a.own := by rw [hv]; simp [AV.own]
 have hl : i < S.above.length := by rw [hS.la]; exact hi
 refine ⟨q, id, _, hq1, hq2, ⟨{ hS.toRows4 with lt := hS.lt, st := ?_, hn := ?_, ha := ?_, hr := ?_, hf := ?_ }, ?_, ?_, ?_⟩, Nat.le_refl _, fun j h1 h2 => Hp.get_set_ne fun h3 => h2 (At.mem_own.2 (.inr (.inr (.inl (by rw [h3]; exact hid))))), fun j h1 => .inl h1⟩
 ·rw [Hp.get_set_ne (fun h1 : s = id => hS.sa (by rw [h1]; exact hid))]; exact hS.st
 ·exact hS.hn.keep (Nat.le_refl _) fun j h1 => Hp.get_set_ne fun h2 => hS.na j h1 (by rw [h2]; exact hid)
 ·show RowAt _ 1 p.a S.nodes.length (nats (S.above.set i z))
  rw [← nats_set hl, hv]
  refine .row Hp.get_set_eq ?_ (hS.ha.lt id hid)
  have hc := hS.ha.clen
  rw [putAt_length (by rw [hc]; show i * 1 + 1 ≤ _; omega)]
  exact hc
 ·exact hS.hr.keep (Nat.le_refl _) fun j h1 => Hp.get_set_ne fun h2 => hS.ar j (by rw [h2]; exact hid) h1
 ·exact hS.hf.keep (Nat.le_refl _) fun j h1 => Hp.get_set_ne fun h2 => hS.af j (by rw [h2]; exact hid) h1
 ·show (S.above.set i z).length = _; rw [List.length_set]; exact hS.la
 ·exact hS.lr
 ·exact hS.lf
theorem StoreAt.set_r {h : Hp} {s : Nat} {S : Store} {p : At} (hS : StoreAt h s S p) {i : Nat} (hi : i < S.nodes.length) (z : Nat) :
  ∃ q id ob, indexAddrA ctx 72 p.r (vint i) = some q ∧ (∀ L, storeA ctx L h.get 3 q (vint z) = some (.setH id ob none)) ∧ StoreAt (h.set id ob) s { S with ranks := S.ranks.set i z } p ∧ Fram h (h.set id ob) (p.own s) (p.own s) := by
 obtain ⟨q, id, ver, hv, hq1, hq2⟩ := hS.hr.write (C := ctx) (w := vint z) hi (t := 72) (e := 3) rfl rfl rfl rfl rfl rfl
 have hid : id ∈ p.r.own := by rw [hv]; simp [AV.own]
 have hl : i < S.ranks.length := by rw [hS.lr]; exact hi
 refine ⟨q, id, _, hq1, hq2, ⟨{ hS.toRows4 with lt := hS.lt, st := ?_, hn := ?_, ha := ?_, hr := ?_, hf := ?_ }, ?_, ?_, ?_⟩, Nat.le_refl _, fun j h1 h2 => Hp.get_set_ne fun h3 => h2 (At.mem_own.2 (.inr (.inr (.inr (.inl (by rw [h3]; exact hid)))))), fun j h1 => .inl h1⟩
 ·rw [Hp.get_set_ne (fun h1 : s = id => hS.sr (by rw [h1]; exact hid))]; exact hS.st
 ·exact hS.hn.keep (Nat.le_refl _) fun j h1 => Hp.get_set_ne fun h2 => hS.nr j h1 (by rw [h2]; exact hid)
 ·exact hS.ha.keep (Nat.le_refl _) fun j h1 => Hp.get_set_ne fun h2 => hS.ar j h1 (by rw [h2]; exact hid)
 ·show RowAt _ 1 p.r S.nodes.length (nats (S.ranks.set i z))
  rw [← nats_set hl, hv]
  refine .row Hp.get_set_eq ?_ (hS.hr.lt id hid)
  have hc := hS.hr.clen
  rw [putAt_length (by rw [hc]; show i * 1 + 1 ≤ _; omega)]
  exact hc
 ·exact hS.hf.keep (Nat.le_refl _) fun j h1 => Hp.get_set_ne fun h2 => hS.rf j (by rw [h2]; exact hid) h1
 ·exact hS.la
 ·show (S.ranks.set i z).length = _; rw [List.length_set]; exact hS.lr
 ·exact hS.lf
theorem StoreAt.set_f {h : Hp} {s : Nat} {S : Store} {p : At} (hS : StoreAt h s S p) {i : Nat} (hi : i < S.nodes.length) (z : Nat) :
  ∃ q id ob, indexAddrA ctx 72 p.f (vint i) = some q ∧ (∀ L, storeA ctx L h.get 3 q (vint z) = some (.setH id ob none)) ∧ StoreAt (h.set id ob) s { S with forms := S.forms.set i z } p ∧ Fram h (h.set id ob) (p.own s) (p.own s) := by
 obtain ⟨q, id, ver, hv, hq1, hq2⟩ := hS.hf.write (C := ctx) (w := vint z) hi (t := 72) (e := 3) rfl rfl rfl rfl rfl rfl
 have hid : id ∈ p.f.own := by rw [hv]; simp [AV.own]
 have hl : i < S.forms.length := by rw [hS.lf]; exact hi
 refine ⟨q, id, _, hq1, hq2, ⟨{ hS.toRows4 with lt := hS.lt, st := ?_, hn := ?_, ha := ?_, hr := ?_, hf := ?_ }, ?_, ?_, ?_⟩, Nat.le_refl _, fun j h1 h2 => Hp.get_set_ne fun h3 => h2 (At.mem_own.2 (.inr (.inr (.inr (.inr (by rw [h3]; exact hid)))))), fun j h1 => .inl h1⟩
 ·rw [Hp.get_set_ne (fun h1 : s = id => hS.sf (by rw [h1]; exact hid))]; exact hS.st
 ·exact hS.hn.keep (Nat.le_refl _) fun j h1 => Hp.get_set_ne fun h2 => hS.nf j h1 (by rw [h2]; exact hid)
 ·exact hS.ha.keep (Nat.le_refl _) fun j h1 => Hp.get_set_ne fun h2 => hS.af j h1 (by rw [h2]; exact hid)
 ·exact hS.hr.keep (Nat.le_refl _) fun j h1 => Hp.get_set_ne fun h2 => hS.rf j h1 (by rw [h2]; exact hid)
 ·show RowAt _ 1 p.f S.nodes.length (nats (S.forms.set i z))
  rw [← nats_set hl, hv]
  refine .row Hp.get_set_eq ?_ (hS.hf.lt id hid)
  have hc := hS.hf.clen
  rw [putAt_length (by rw [hc]; show i * 1 + 1 ≤ _; omega)]
  exact hc
 ·exact hS.la
 ·exact hS.lr
 ·show (S.forms.set i z).length = _; rw [List.length_set]; exact hS.lf
/-- What one putting of a node under another one has changed. -/
structure UStep where
 under : Nat
 over : Nat
 form : Nat
 rank : Nat
def UStep.cells (d : UStep) : List DV := [.int .i64 d.under, .int .i64 d.over, .int .i64 d.form, .int .i64 d.rank]
def Store.which (S : Store) (x y : Nat) : Nat × Nat := if S.rank x > S.rank y then (y, x) else (x, y)
def Store.stepOf (S : Store) (i : Nat × Nat) : UStep := ⟨i.1, i.2, S.forms.getD i.2 0, S.rank i.2⟩
def Store.put1 (S : Store) (i : Nat × Nat) : Store := if (S.form i.2).kind = 1 then { S with forms := S.forms.set i.2 (S.forms.getD i.1 0) } else S
def Store.put2 (S : Store) (i : Nat × Nat) : Store := if S.rank i.1 = S.rank i.2 then { S with ranks := S.ranks.set i.2 (S.rank i.2 + 1) } else S
def Store.put3 (S : Store) (i : Nat × Nat) : Store := { S with above := S.above.set i.1 i.2 }
def Store.put (S : Store) (x y : Nat) : Store := ((S.put1 (S.which x y)).put2 (S.which x y)).put3 (S.which x y)
def Store.putStep (S : Store) (x y : Nat) : UStep := S.stepOf (S.which x y)
end Go.Dv.Us
/- put. -/
namespace Go.Dv.Us
open Go.Dv.K Go.Proofs
theorem nats_at {l : List Nat} {i : Nat} (h : i < l.length) : takeExact 1 (0 + (i : Int).toNat * 1) (nats l) = some [vint (l.getD i 0 : Nat)] := by
 rw [Nat.zero_add]; exact nats_get h
theorem which_lt {S : Store} {x y : Nat} (hx : x < S.nodes.length) (hy : y < S.nodes.length) : (S.which x y).1 < S.nodes.length ∧ (S.which x y).2 < S.nodes.length := by
 unfold Store.which
 split
 ·exact ⟨hy, hx⟩
 ·exact ⟨hx, hy⟩
theorem put_ret {h : Hp} {s : Nat} {S : Store} {p : At} (hS : StoreAt h s S p) (hw : Wf S) {x y : Nat} (hx : x < S.nodes.length) (hy : y < S.nodes.length) (hrk : ∀ n, (S.ranks.getD n 0) < 2 ^ 40) :
  Ret ctx Or Xo 125 [.ptr s 0 0, vint x, vint y] h (fun v h' => v = .d (.agg (S.putStep x y).cells) ∧ StoreAt h' s (S.put x y) p ∧ Fram h h' (p.own s) (p.own s)) := by
 refine body (env := [(0, .ptr s 0 0), (1, vint x), (2, vint y)]) (rs := [.cell 6 211]) Tryz.func125 rfl rfl Tryz.ntmps125 rfl rfl ?_
 refine s_seq <| s_region ?_
 refine s_newL rfl rfl rfl rfl rfl ?_
 refine s_nil ?_
 refine s_mid (ι := Nat × Nat) (fun i => ⟨[(0, .ptr s 0 0), (1, vint i.1), (2, vint i.2), (6, .lptr 6 0)], [(6, [.d (.int .i64 0), .d (.int .i64 0), .d (.int .i64 0), .d (.int .i64 0)])], h⟩) (fun i => i = S.which x y) ?_ ?_
 ·obtain ⟨q1, hq1, hq2⟩ := read1 hS.hr hx (C := ctx) (t := 72) (e := 3) rfl rfl rfl rfl
  obtain ⟨q2, hq3, hq4⟩ := read1 hS.hr hy (C := ctx) (t := 72) (e := 3) rfl rfl rfl rfl
  refine s_seq ?_
  refine s_drawn { ord := [0, 1, 2, 3, 4, 5, 6, 7, 8, 9, 10, 11, 12, 13, 14], cl := [0, 1, 3, 7, 0, 31, 63, 0, 128, 384, 896, 0, 3968, 8064, 16383] } (by kernel_rfl) ?_
  iterate 3 refine d_val rfl rfl rfl rfl rfl ?_
  refine d_val rfl rfl (o_load rfl rfl rfl hS.st rfl rfl) rfl rfl ?_
  refine d_val rfl rfl rfl rfl rfl ?_
  refine d_val rfl rfl (o_indexV rfl rfl rfl hq1) rfl rfl ?_
  refine d_val rfl rfl (o_loadV rfl rfl (hq2 _)) rfl rfl ?_
  iterate 3 refine d_val rfl rfl rfl rfl rfl ?_
  refine d_val rfl rfl (o_load rfl rfl rfl hS.st rfl rfl) rfl rfl ?_
  refine d_val rfl rfl rfl rfl rfl ?_
  refine d_val rfl rfl (o_indexV rfl rfl rfl hq3) rfl rfl ?_
  refine d_val rfl rfl (o_loadV rfl rfl (hq4 _)) rfl rfl ?_
  refine d_val rfl rfl rfl rfl rfl ?_
  refine d_nil ⟨trivial, trivial, ?_⟩
  refine s_if rfl (fun ht => ?_) (fun ht => ?_)
  ·have hw : S.which x y = (y, x) := if_pos (Int.ofNat_lt.1 (of_decide_eq_true ht))
   refine s_region ?_
   iterate 4 refine s_val rfl rfl rfl rfl ?_
   refine s_nil ?_
   exact ⟨(y, x), hw.symm, ⟨rfl, rfl, rfl, rfl, trivial⟩, ⟨rfl, trivial⟩, rfl⟩
  ·have hw : S.which x y = (x, y) := if_neg (fun h1 => of_decide_eq_false ht (Int.ofNat_lt.2 h1))
   refine s_skip ?_
   exact ⟨(x, y), hw.symm, ⟨rfl, rfl, rfl, rfl, trivial⟩, ⟨rfl, trivial⟩, rfl⟩
 ·rintro i rfl
  obtain ⟨hx', hy'⟩ := which_lt (S := S) hx hy
  generalize hi : S.which x y = i at hx' hy' ⊢
  obtain ⟨idf, verf, hvf⟩ := hS.hf.ne hy'
  obtain ⟨idr, verr, hvr⟩ := hS.hr.ne hy'
  obtain ⟨pn, pa, pr, pf⟩ := p
  simp only at hvf hvr
  subst hvf hvr
  have hl2 : i.2 < S.forms.length := by rw [hS.lf]; exact hy'
  have hl3 : i.2 < S.ranks.length := by rw [hS.lr]; exact hy'
  refine s_seq ?_
  refine s_drawn { ord := [17, 0, 1, 2, 3, 4, 5, 6, 7, 8, 9, 10, 11, 12, 13, 14, 15, 16, 18], wr := 262144, nA := 1, cl := [0, 0, 0, 4, 12, 28, 0, 124, 252, 0, 512, 1536, 3584, 0, 15872, 32256, 65535, 0, 262143] } (by kernel_rfl) ?_
  refine d_newL rfl rfl rfl rfl rfl rfl ?_
  iterate 5 refine d_val rfl rfl rfl rfl rfl ?_
  refine d_val rfl rfl (o_load rfl rfl rfl hS.st rfl rfl) rfl rfl ?_
  refine d_val rfl rfl rfl rfl rfl ?_
  refine d_val rfl rfl (o_index rfl rfl rfl rfl rfl rfl (Int.natCast_nonneg _) (Int.ofNat_lt.2 hy')) rfl rfl ?_
  refine d_val rfl rfl (o_load rfl rfl rfl hS.hf.get (nats_at hl2) rfl) rfl rfl ?_
  iterate 3 refine d_val rfl rfl rfl rfl rfl ?_
  refine d_val rfl rfl (o_load rfl rfl rfl hS.st rfl rfl) rfl rfl ?_
  refine d_val rfl rfl rfl rfl rfl ?_
  refine d_val rfl rfl (o_index rfl rfl rfl rfl rfl rfl (Int.natCast_nonneg _) (Int.ofNat_lt.2 hy')) rfl rfl ?_
  refine d_val rfl rfl (o_load rfl rfl rfl hS.hr.get (nats_at hl3) rfl) rfl rfl ?_
  refine d_val rfl rfl rfl rfl rfl ?_
  refine d_setL rfl rfl rfl rfl ?_
  refine d_nil ⟨trivial, ⟨⟨rfl, ?_⟩, trivial⟩, ?_⟩
  ·rintro o d ⟨rfl⟩ ⟨rfl⟩
   repeat' constructor
  refine s_mid (ι := Hp) (fun h' => ⟨[(0, .ptr s 0 0), (1, vint i.1), (2, vint i.2), (6, .lptr 6 0), (7, .lptr 7 0)], [(7, (S.stepOf i).cells.map .d), (6, [.d (.int .i64 0), .d (.int .i64 0), .d (.int .i64 0), .d (.int .i64 0)])], h'⟩) (fun h' => StoreAt h' s (S.put1 i) ⟨pn, pa, .msl idr 0 S.nodes.length verr 1, .msl idf 0 S.nodes.length verf 1⟩ ∧ Fram h h' (At.own ⟨pn, pa, .msl idr 0 S.nodes.length verr 1, .msl idf 0 S.nodes.length verf 1⟩ s) (At.own ⟨pn, pa, .msl idr 0 S.nodes.length verr 1, .msl idf 0 S.nodes.length verf 1⟩ s)) ?_ ?_
  ·refine s_seq ?_
   refine s_region <| s_val rfl rfl rfl rfl <| s_val rfl rfl rfl rfl ?_
   refine s_ret1 (form_ret hS hw i.2 hy') rfl rfl rfl rfl ?_
   rintro _ h1 ⟨rfl, he⟩
   subst he
   refine s_val rfl rfl rfl rfl <| s_val rfl rfl rfl rfl <| s_nil ?_
   refine s_if rfl (fun ht => ?_) (fun ht => ?_)
   ·have hk : (S.form i.2).kind = 1 := by
     have := eq_of_beq ht
     omega
    have hp1 : S.put1 i = { S with forms := S.forms.set i.2 (S.forms.getD i.1 0) } := if_pos hk
    obtain ⟨q2, hq3, hq4⟩ := read1 hS.hf hx' (C := ctx) (t := 72) (e := 3) rfl rfl rfl rfl
    obtain ⟨q3, id3, ob3, hq5, hq6, hS1, hF1⟩ := hS.set_f hy' (S.forms.getD i.1 0)
    refine s_drawn { ord := [0, 1, 2, 3, 4, 5, 6, 7, 8, 9, 10, 11, 12, 13], wr := 8192, cl := [0, 1, 3, 7, 0, 0, 32, 96, 224, 0, 992, 2016, 4095, 8191] } (by kernel_rfl) ?_
    iterate 3 refine d_val rfl rfl rfl rfl rfl ?_
    refine d_val rfl rfl (o_load rfl rfl rfl hS.st rfl rfl) rfl rfl ?_
    iterate 4 refine d_val rfl rfl rfl rfl rfl ?_
    refine d_val rfl rfl (o_load rfl rfl rfl hS.st rfl rfl) rfl rfl ?_
    refine d_val rfl rfl rfl rfl rfl ?_
    refine d_val rfl rfl (o_indexV rfl rfl rfl hq3) rfl rfl ?_
    refine d_val rfl rfl (o_loadV rfl rfl (hq4 _)) rfl rfl ?_
    refine d_val rfl rfl (o_indexV rfl rfl rfl hq5) rfl rfl ?_
    refine d_setH rfl rfl (o_storeV rfl rfl rfl (hq6 _)) rfl ?_
    refine d_nil ⟨trivial, trivial, ?_⟩
    exact ⟨_, ⟨by rw [hp1]; exact hS1, hF1⟩, ⟨rfl, rfl, rfl, rfl, rfl, trivial⟩, ⟨rfl, rfl, trivial⟩, rfl⟩
   ·have hk : ¬ (S.form i.2).kind = 1 := by
     intro h1
     rw [h1] at ht; cases ht
    have hp1 : S.put1 i = S := if_neg hk
    refine s_skip ?_
    exact ⟨_, ⟨by rw [hp1]; exact hS, Fram.rfl'⟩, ⟨rfl, rfl, rfl, rfl, rfl, trivial⟩, ⟨rfl, rfl, trivial⟩, rfl⟩
  ·rintro h1 ⟨hS1, hF1⟩
   have hn1 : (S.put1 i).nodes = S.nodes := by unfold Store.put1; split <;> rfl
   rw [← hn1] at hx' hy'
   refine s_mid (ι := Hp) (fun h' => ⟨[(0, .ptr s 0 0), (1, vint i.1), (2, vint i.2), (6, .lptr 6 0), (7, .lptr 7 0)], [(7, (S.stepOf i).cells.map .d), (6, [.d (.int .i64 0), .d (.int .i64 0), .d (.int .i64 0), .d (.int .i64 0)])], h'⟩) (fun h' => StoreAt h' s ((S.put1 i).put2 i) ⟨pn, pa, .msl idr 0 S.nodes.length verr 1, .msl idf 0 S.nodes.length verf 1⟩ ∧ Fram h h' (At.own ⟨pn, pa, .msl idr 0 S.nodes.length verr 1, .msl idf 0 S.nodes.length verf 1⟩ s) (At.own ⟨pn, pa, .msl idr 0 S.nodes.length verr 1, .msl idf 0 S.nodes.length verf 1⟩ s)) ?_ ?_
   ·refine s_seq ?_
    obtain ⟨q1, hq1, hq2⟩ := read1 hS1.hr hx' (C := ctx) (t := 72) (e := 3) rfl rfl rfl rfl
    obtain ⟨q2, hq3, hq4⟩ := read1 hS1.hr hy' (C := ctx) (t := 72) (e := 3) rfl rfl rfl rfl
    refine s_drawn { ord := [0, 1, 2, 3, 4, 5, 6, 7, 8, 9, 10, 11, 12, 13, 14], cl := [0, 1, 3, 7, 0, 31, 63, 0, 128, 384, 896, 0, 3968, 8064, 16383] } (by kernel_rfl) ?_
    iterate 3 refine d_val rfl rfl rfl rfl rfl ?_
    refine d_val rfl rfl (o_load rfl rfl rfl hS1.st rfl rfl) rfl rfl ?_
    refine d_val rfl rfl rfl rfl rfl ?_
    refine d_val rfl rfl (o_indexV rfl rfl rfl hq1) rfl rfl ?_
    refine d_val rfl rfl (o_loadV rfl rfl (hq2 _)) rfl rfl ?_
    iterate 3 refine d_val rfl rfl rfl rfl rfl ?_
    refine d_val rfl rfl (o_load rfl rfl rfl hS1.st rfl rfl) rfl rfl ?_
    refine d_val rfl rfl rfl rfl rfl ?_
    refine d_val rfl rfl (o_indexV rfl rfl rfl hq3) rfl rfl ?_
    refine d_val rfl rfl (o_loadV rfl rfl (hq4 _)) rfl rfl ?_
    refine d_val rfl rfl rfl rfl rfl ?_
    refine d_nil ⟨trivial, trivial, ?_⟩
    refine s_if rfl (fun ht => ?_) (fun ht => ?_)
    ·have hk : (S.put1 i).rank i.1 = (S.put1 i).rank i.2 := Int.ofNat_inj.1 (eq_of_beq ht)
     have hp2 : (S.put1 i).put2 i = { S.put1 i with ranks := (S.put1 i).ranks.set i.2 ((S.put1 i).rank i.2 + 1) } := if_pos hk
     obtain ⟨q3, id3, ob3, hq5, hq6, hS2, hF2⟩ := hS1.set_r hy' ((S.put1 i).rank i.2 + 1)
     refine s_region ?_
     iterate 3 refine s_val rfl rfl rfl rfl ?_
     refine s_val rfl (o_load rfl rfl rfl hS1.st rfl rfl) rfl rfl ?_
     refine s_val rfl rfl rfl rfl ?_
     refine s_val rfl (o_indexV rfl rfl rfl hq3) rfl rfl ?_
     refine s_val rfl (o_loadV rfl rfl (hq4 _)) rfl rfl ?_
     refine s_val rfl (o_eq rfl (wrap_succ (show (S.put1 i).ranks.getD i.2 0 < 2 ^ 40 by rw [show (S.put1 i).ranks = S.ranks by unfold Store.put1; split <;> rfl]; exact hrk i.2))) rfl rfl ?_
     refine s_val rfl (o_indexV rfl rfl rfl hq5) rfl rfl ?_
     refine s_setH rfl (o_storeV rfl rfl rfl (hq6 _)) rfl ?_
     refine s_nil ?_
     exact ⟨_, ⟨by rw [hp2]; exact hS2, hF1.trans hF2⟩, ⟨rfl, rfl, rfl, rfl, rfl, trivial⟩, ⟨rfl, rfl, trivial⟩, rfl⟩
    ·have hk : ¬ (S.put1 i).rank i.1 = (S.put1 i).rank i.2 := by
      intro h2
      have h3 : ((S.put1 i).ranks.getD i.1 0 : Int) = ((S.put1 i).ranks.getD i.2 0 : Nat) := Int.ofNat_inj.2 h2
      rw [h3] at ht; simp at ht
     have hp2 : (S.put1 i).put2 i = S.put1 i := if_neg hk
     refine s_skip ?_
     exact ⟨_, ⟨by rw [hp2]; exact hS1, hF1⟩, ⟨rfl, rfl, rfl, rfl, rfl, trivial⟩, ⟨rfl, rfl, trivial⟩, rfl⟩
   ·rintro h2 ⟨hS2, hF2⟩
    have hn2 : ((S.put1 i).put2 i).nodes = (S.put1 i).nodes := by unfold Store.put2; split <;> rfl
    rw [← hn2] at hx' hy'
    obtain ⟨q3, id3, ob3, hq5, hq6, hS3, hF3⟩ := hS2.set_a hx' i.2
    refine s_seq <| s_region ?_
    iterate 3 refine s_val rfl rfl rfl rfl ?_
    refine s_val rfl (o_load rfl rfl rfl hS2.st rfl rfl) rfl rfl ?_
    refine s_val rfl rfl rfl rfl <| s_val rfl rfl rfl rfl ?_
    refine s_val rfl (o_indexV rfl rfl rfl hq5) rfl rfl ?_
    refine s_setH rfl (o_storeV rfl rfl rfl (hq6 _)) rfl ?_
    refine s_nil <| s_seq <| s_region <| s_val rfl rfl rfl rfl ?_
    refine s_setL rfl rfl rfl ?_
    refine s_nil <| s_ret ?_
    refine ⟨.inr rfl, _, rfl, ?_, ?_, hF2.trans hF3⟩
    ·unfold Store.putStep; rw [hi]; rfl
    ·unfold Store.put; rw [hi]; exact hS3
end Go.Dv.Us
