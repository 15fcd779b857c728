/- A part of the proof of InferUses, second form: for every input of bulk at most 1048576 the call returns true and the arguments read as they did. Its condition: that bulk. -/
import Derived.Test.YtanhfhjoeoinoaaGreatDoorU22
import Derived.Test.YtanhfhjoeoinoaaGreatDoorU10
/- Stores stay right. -/
namespace Go.Dv.Us
open Go.Dv.K Go.Proofs
theorem getD_set {l : List Nat} {i j z : Nat} (h : i < l.length) : (l.set i z).getD j 0 = if j = i then z else l.getD j 0 := by
 rw [List.getD_eq_getElem?_getD, List.getElem?_set]
 by_cases h1 : i = j
 ·subst h1; simp [h]
 ·rw [if_neg h1, if_neg (fun h2 => h1 h2.symm), List.getD_eq_getElem?_getD]
theorem getD_snoc {l : List Nat} {j z : Nat} : (l ++ [z]).getD j 0 = if j = l.length then z else l.getD j 0 := by
 simp only [List.getD_eq_getElem?_getD]
 rcases Nat.lt_trichotomy j l.length with h | h | h
 ·rw [List.getElem?_append_left h, if_neg (by omega)]
 ·subst h; simp
 ·rw [List.getElem?_append_right (by omega), if_neg (by omega), List.getElem?_eq_none (l := l) (by omega), List.getElem?_eq_none (by simp; omega)]
theorem countP_one {p q : Nat → Bool} {u : Nat} : ∀ {n : Nat}, u < n → p u = true → q u = false → (∀ i, i ≠ u → p i = q i) → (List.range n).countP p = (List.range n).countP q + 1
 | 0, h, _, _, _ => absurd h (Nat.not_lt_zero _)
 | n + 1, h, hp, hq, hr => by
  rw [List.range_succ, List.countP_append, List.countP_append]
  by_cases hn : u = n
  ·subst hn
   have : (List.range u).countP p = (List.range u).countP q := by
    apply List.countP_congr
    intro i hi
    rw [hr i (by simp at hi; omega)]
   rw [this]
   simp [hp, hq]
  ·have ih := countP_one (n := n) (u := u) (by omega) hp hq hr
   rw [ih, List.countP_singleton, List.countP_singleton, hr n (fun h => hn h.symm)]
   omega
/-- Two roots, one of which is put under the other. -/
structure Two (S : Store) (i : Nat × Nat) : Prop where
 l1 : i.1 < S.nodes.length
 l2 : i.2 < S.nodes.length
 ne : i.1 ≠ i.2
 r1 : S.up i.1 = i.1
 r2 : S.up i.2 = i.2
 le : S.rank i.1 ≤ S.rank i.2
theorem two_which {S : Store} {x y : Nat} (hx : x < S.nodes.length) (hy : y < S.nodes.length) (hne : x ≠ y) (hux : S.up x = x) (huy : S.up y = y) : Two S (S.which x y) := by
 unfold Store.which
 split
 ·exact ⟨hy, hx, fun h => hne h.symm, huy, hux, by simp only; omega⟩
 ·exact ⟨hx, hy, hne, hux, huy, by simp only; omega⟩
section
variable {S : Store} {i : Nat × Nat}
def Store.putAll (S : Store) (i : Nat × Nat) : Store := ((S.put1 i).put2 i).put3 i
theorem putAll_nodes : (S.putAll i).nodes = S.nodes := by
 unfold Store.putAll Store.put3 Store.put2 Store.put1
 simp only
 split <;> split <;> rfl
theorem putAll_above : (S.putAll i).above = S.above.set i.1 i.2 := by
 unfold Store.putAll Store.put3 Store.put2 Store.put1
 simp only
 split <;> split <;> rfl
theorem putAll_ranks : (S.putAll i).ranks = if S.rank i.1 = S.rank i.2 then S.ranks.set i.2 (S.rank i.2 + 1) else S.ranks := by
 have h1 : (S.put1 i).ranks = S.ranks := by unfold Store.put1; split <;> rfl
 show ((S.put1 i).put2 i).ranks = _
 unfold Store.put2 Store.rank
 rw [h1]
 by_cases h : S.ranks.getD i.1 0 = S.ranks.getD i.2 0
 ·rw [if_pos h, if_pos h]
 ·rw [if_neg h, if_neg h, h1]
theorem putAll_forms : (S.putAll i).forms = if (S.form i.2).kind = 1 then S.forms.set i.2 (S.forms.getD i.1 0) else S.forms := by
 unfold Store.putAll Store.put3 Store.put2 Store.put1
 simp only
 split <;> split <;> rfl
theorem putAll_up (hw : Wf S) (ht : Two S i) (n : Nat) : (S.putAll i).up n = if n = i.1 then i.2 else S.up n := by
 unfold Store.up
 rw [putAll_above, getD_set (by rw [hw.la]; exact ht.l1)]
theorem putAll_rank (hw : Wf S) (ht : Two S i) (n : Nat) : (S.putAll i).rank n = if S.rank i.1 = S.rank i.2 ∧ n = i.2 then S.rank i.2 + 1 else S.rank n := by
 unfold Store.rank
 rw [putAll_ranks]
 unfold Store.rank
 split
 ·rename_i h
  rw [getD_set (by rw [hw.lr]; exact ht.l2)]
  by_cases hn : n = i.2
  ·rw [if_pos hn, if_pos ⟨h, hn⟩]
  ·rw [if_neg hn, if_neg (fun h1 => hn h1.2)]
 ·rename_i h
  rw [if_neg (fun h1 => h h1.1)]
theorem putAll_roots (hw : Wf S) (ht : Two S i) : S.roots = (S.putAll i).roots + 1 := by
 unfold Store.roots
 rw [putAll_nodes]
 refine countP_one ht.l1 ?_ ?_ fun n hn => ?_
 ·simp [ht.r1]
 ·have h1 := ht.ne
  simp only [putAll_up hw ht, if_true, beq_eq_false_iff_ne, ne_eq]
  exact fun h => h1 h.symm
 ·rw [putAll_up hw ht, if_neg hn]
theorem Wf.putAll (hw : Wf S) (ht : Two S i) : Wf (S.putAll i) where
 up := fun n hn => by
  rw [putAll_nodes] at hn ⊢
  rw [putAll_up hw ht]
  split
  ·exact ht.l2
  ·exact hw.up n hn
 rise := fun n hn h => by
  rw [putAll_nodes] at hn
  rw [putAll_up hw ht] at h ⊢
  have h1 := ht.ne
  have h2 := ht.le
  have h4 := ht.r2
  by_cases hn1 : n = i.1
  ·rw [if_pos hn1, putAll_rank hw ht, putAll_rank hw ht, if_neg (fun h3 => h1 (hn1 ▸ h3.2))]
   subst hn1
   split
   ·rename_i h3; omega
   ·rename_i h3
    have : ¬ S.rank i.1 = S.rank i.2 := fun h5 => h3 ⟨h5, rfl⟩
    omega
  ·rw [if_neg hn1] at h ⊢
   have h3 := hw.rise n hn h
   have h5 : n ≠ i.2 := by rintro rfl; exact h h4
   rw [putAll_rank hw ht, putAll_rank hw ht, if_neg (fun h6 => h5 h6.2)]
   split
   ·rename_i h6
    rw [h6.2] at h3
    omega
   ·exact h3
 form := fun n hn => by
  rw [putAll_nodes] at hn ⊢
  rw [putAll_forms]
  split
  ·rw [getD_set (by rw [hw.lf]; exact ht.l2)]
   split
   ·exact hw.form _ ht.l1
   ·exact hw.form n hn
  ·exact hw.form n hn
 args := fun n hn x hx a ha => by
  rw [putAll_nodes] at hn hx ⊢
  exact hw.args n hn x hx a ha
 size := by rw [putAll_nodes]; exact hw.size
 alen := fun n hn x hx => by
  rw [putAll_nodes] at hn hx
  exact hw.alen n hn x hx
 nil := fun n hn x hx => by
  rw [putAll_nodes] at hn hx
  exact hw.nil n hn x hx
 rk := fun n => by
  have h1 := putAll_roots hw ht
  have h2 := hw.rk n
  have h3 := hw.rk i.2
  rw [putAll_nodes, putAll_rank hw ht]
  split <;> omega
 la := by rw [putAll_nodes, putAll_above, List.length_set]; exact hw.la
 lr := by
  rw [putAll_nodes, putAll_ranks]
  split
  ·rw [List.length_set]; exact hw.lr
  ·exact hw.lr
 lf := by
  rw [putAll_nodes, putAll_forms]
  split
  ·rw [List.length_set]; exact hw.lf
  ·exact hw.lf
end
theorem Wf.put {S : Store} {x y : Nat} (hw : Wf S) (hx : x < S.nodes.length) (hy : y < S.nodes.length) (hne : x ≠ y) (hux : S.up x = x) (huy : S.up y = y) : Wf (S.put x y) :=
 hw.putAll (two_which hx hy hne hux huy)
theorem Store.put_nodes {S : Store} {x y : Nat} : (S.put x y).nodes = S.nodes := putAll_nodes (i := S.which x y)
theorem find_root {S : Store} (hw : Wf S) {n : Nat} (hn : n < S.nodes.length) : S.up (S.find n) = S.find n := by
 have key : ∀ (k n : Nat), n < S.nodes.length → maxL S.ranks - S.rank n < k → S.up (S.findF k n) = S.findF k n := by
  intro k
  induction k with
  | zero => intro n _ h; omega
  | succ k ih =>
   intro n hn h
   simp only [Store.findF]
   split
   ·rename_i hu; exact hu
   ·rename_i hu
    have := find_step hw hn hu
    exact ih _ (hw.up n hn) (by omega)
 exact key _ n hn (by omega)
theorem Wf.add {S : Store} (hw : Wf S) {x : UNode} (hx : ∀ a ∈ x.args, a < S.nodes.length) (hsz : S.nodes.length + 1 ≤ 2 ^ 12) (hal : x.args.length ≤ 2 ^ 12) (hni : x.isnil = true → x.args = []) : Wf (S.add x) := by
 have hl : (S.add x).nodes.length = S.nodes.length + 1 := by simp [Store.add]
 have hup : ∀ n, (S.add x).up n = if n = S.nodes.length then S.nodes.length else S.up n := fun n => by
  show (S.above ++ [S.nodes.length]).getD n 0 = _
  rw [getD_snoc, hw.la]; rfl
 have hrank : ∀ n, (S.add x).rank n = S.rank n := fun n => by
  show (S.ranks ++ [0]).getD n 0 = S.ranks.getD n 0
  rw [getD_snoc]
  split
  ·rename_i h; subst h; simp
  ·rfl
 have hroots : (S.add x).roots = S.roots + 1 := by
  unfold Store.roots
  rw [hl, List.range_succ, List.countP_append, List.countP_singleton, hup, if_pos rfl]
  simp only [beq_self_eq_true, if_true]
  congr 1
  apply List.countP_congr
  intro n hn
  rw [hup, if_neg (by simp at hn; omega)]
 refine ⟨fun n hn => ?_, fun n hn h => ?_, fun n hn => ?_, fun n hn y hy a ha => ?_, by omega, fun n hn y hy => ?_, fun n hn y hy => ?_, fun n => ?_, ?_, ?_, ?_⟩
 ·rw [hl] at hn ⊢; rw [hup]
  split
  ·omega
  ·have := hw.up n (by omega); omega
 ·rw [hl] at hn; rw [hup] at h ⊢
  split
  ·rename_i h1; rw [if_pos h1] at h; exact absurd h1.symm h
  ·rename_i h1; rw [if_neg h1] at h; rw [hrank, hrank]; exact hw.rise n (by omega) h
 ·rw [hl] at hn ⊢
  show (S.forms ++ [S.nodes.length]).getD n 0 < _
  rw [getD_snoc]
  split
  ·omega
  ·rename_i h1; have := hw.form n (by have := hw.lf; omega); omega
 ·rw [hl] at hn ⊢
  have hy' : (S.nodes ++ [x])[n]? = some y := hy
  by_cases h1 : n < S.nodes.length
  ·rw [List.getElem?_append_left h1] at hy'
   have := hw.args n h1 y hy' a ha; omega
  ·have h2 : n = S.nodes.length := by omega
   subst h2
   simp at hy'
   subst hy'
   have := hx a ha; omega
 ·rw [hl] at hn
  have hy' : (S.nodes ++ [x])[n]? = some y := hy
  by_cases h1 : n < S.nodes.length
  ·rw [List.getElem?_append_left h1] at hy'
   exact hw.alen n h1 y hy'
  ·have h2 : n = S.nodes.length := by omega
   subst h2
   simp at hy'
   subst hy'
   exact hal
 ·rw [hl] at hn
  have hy' : (S.nodes ++ [x])[n]? = some y := hy
  by_cases h1 : n < S.nodes.length
  ·rw [List.getElem?_append_left h1] at hy'
   exact hw.nil n h1 y hy'
  ·have h2 : n = S.nodes.length := by omega
   subst h2
   simp at hy'
   subst hy'
   exact hni
 ·rw [hl, hrank, hroots]; have := hw.rk n; omega
 ·show (S.above ++ [_]).length = _; rw [hl, List.length_append, hw.la]; rfl
 ·show (S.ranks ++ [_]).length = _; rw [hl, List.length_append, hw.lr]; rfl
 ·show (S.forms ++ [_]).length = _; rw [hl, List.length_append, hw.lf]; rfl
end Go.Dv.Us
/- merge: what holds between its rounds. -/
namespace Go.Dv.Us
open Go.Dv.K Go.Proofs
def stc (l : List UStep) : List AV := l.flatMap fun d => d.cells.map .d
def prs (l : List (Nat × Nat)) : List AV := l.flatMap fun q => [vint q.1, vint q.2]
theorem stc_append (l m : List UStep) : stc (l ++ m) = stc l ++ stc m := by simp [stc]
theorem prs_append (l m : List (Nat × Nat)) : prs (l ++ m) = prs l ++ prs m := by simp [prs]
theorem prs_length : ∀ (l : List (Nat × Nat)), (prs l).length = l.length * 2
 | [] => rfl
 | q :: l => by
  have := prs_length l
  simp only [prs, List.flatMap_cons, List.length_append, List.length_cons, List.length_nil] at this ⊢
  omega
/-- Two nodes and all their arguments are made alike; the stack's head is its end. -/
def Store.mergeF (free : Bool) : Nat → Store → List UStep → List (Nat × Nat) → Option (Store × List UStep × Bool)
 | 0, _, _, _ => none
 | _ + 1, S, st, [] => some (S, st, true)
 | k + 1, S, st, (a, b) :: w =>
  if S.find a = S.find b then Store.mergeF free k S st w
  else if (S.form (S.find a)).kind = 1 ∨ (S.form (S.find b)).kind = 1 then
   if free then Store.mergeF free k (S.put (S.find a) (S.find b)) (st ++ [S.putStep (S.find a) (S.find b)]) w
   else some (S, st, false)
  else if (S.form (S.find a)).kind ≠ (S.form (S.find b)).kind ∨ (S.form (S.find a)).name ≠ (S.form (S.find b)).name ∨ (S.form (S.find a)).args.length ≠ (S.form (S.find b)).args.length then some (S, st, false)
  else Store.mergeF free k (S.put (S.find a) (S.find b)) (st ++ [S.putStep (S.find a) (S.find b)]) (((S.form (S.find a)).args.zip (S.form (S.find b)).args).reverse ++ w)
structure MI (h0 h : Hp) (s : Nat) (p : At) (S : Store) (st : List UStep) (w : List (Nat × Nat)) (vs vw : AV) (room : Nat) : Prop where
 hS : StoreAt h s S p
 hw : Wf S
 fr : Fram h0 h (p.own s) (p.own s)
 rs : RowAt h 4 vs st.length (stc st)
 ns : ∀ id ∈ vs.own, h0.next ≤ id
 sk : StkAt h 2 vw w.length (prs w.reverse)
 nw : ∀ id ∈ vw.own, h0.next ≤ id
 ds : ∀ id ∈ vs.own, id ∉ vw.own
 ok : ∀ q ∈ w, q.1 < S.nodes.length ∧ q.2 < S.nodes.length
 sz : w.length + S.roots * 4096 + room ≤ 2 ^ 24 + 1
 zs : st.length + S.roots ≤ 2 ^ 13
 base : ∀ id ∈ p.own s, id < h0.next
section
variable {h0 h h1 h2 : Hp} {s : Nat} {p : At} {S : Store} {st : List UStep} {w : List (Nat × Nat)} {vs vw v' : AV} {room a b : Nat}
theorem room_put {r0 r1 l room : Nat} (hr : r0 = r1 + 1) (h : l + r0 * 4096 + room ≤ 2 ^ 24 + 1) : l + r1 * 4096 + (room + 4096) ≤ 2 ^ 24 + 1 := by
 subst hr
 rw [Nat.add_mul] at h
 have h2 : 1 * 4096 = 4096 := rfl
 rw [h2] at h
 rw [Nat.add_comm room, ← Nat.add_assoc, Nat.add_assoc l]
 exact h
theorem MI.pop (M : MI h0 h s p S st ((a, b) :: w) vs vw room) :
  ∃ v', sliceA ctx 209 vw none (some (vint w.length)) = some v' ∧ MI h0 h s p S st w vs v' (room + 1) := by
 obtain ⟨v', h1, h2, h3⟩ := M.sk.pop (C := ctx) (len := w.length) (t := 209) (e := 208) rfl rfl rfl
 have he : (prs (w.reverse ++ [(a, b)])).take (w.length * 2) = prs w.reverse := by
  rw [prs_append, List.take_append_of_le_length (by rw [prs_length]; simp), List.take_of_length_le (by rw [prs_length]; simp)]
 rw [List.reverse_cons, he] at h2
 refine ⟨v', h1, { M with sk := h2, nw := by rw [h3]; exact M.nw, ds := by rw [h3]; exact M.ds, ok := fun q hq => M.ok q (by simp [hq]), sz := ?_ }⟩
 have := M.sz
 simp only [List.length_cons] at this
 omega
theorem MI.top (M : MI h0 h s p S st ((a, b) :: w) vs vw room) : ∃ q, indexAddrA ctx 209 vw (vint w.length) = some q ∧ ∀ L, loadA ctx L h.get 208 q = some (.d (.agg [.int .i64 a, .int .i64 b])) := by
 have ht : takeExact 2 (w.length * 2) (prs ((a, b) :: w).reverse) = some [vint a, vint b] := by
  rw [List.reverse_cons, prs_append]
  unfold takeExact
  rw [List.drop_append_of_le_length (by rw [prs_length]; simp), List.drop_of_length_le (by rw [prs_length]; simp)]
  rfl
 exact M.sk.read (C := ctx) (len := w.length + 1) (Nat.lt_succ_self _) (t := 209) (e := 208) rfl rfl rfl ht rfl
/-- One node is put under the other; the step is kept. -/
theorem MI.put (M : MI h0 h s p S st w vs vw room) {x y : Nat} (hx : x < S.nodes.length) (hy : y < S.nodes.length) (hne : x ≠ y) (hux : S.up x = x) (huy : S.up y = y)
  (hS1 : StoreAt h1 s (S.put x y) p) (hF : Fram h h1 (p.own s) (p.own s)) (L : Longer h1 vs 4 (st.length + 1) (stc st ++ (S.putStep x y).cells.map .d) h2 v') :
  MI h0 h2 s p (S.put x y) (st ++ [S.putStep x y]) w v' vw (room + 4096) := by
 have hnot : ∀ id, h0.next ≤ id → id ∉ p.own s := fun id h1 h2 => by have := M.base id h2; omega
 have hown : ∀ id ∈ p.own s, id ∉ vs.own := fun id h1 h2 => hnot id (M.ns id h2) h1
 have hlt : ∀ id ∈ p.own s, id < h1.next := fun id h1 => hS1.toRows4.olt id h1
 have hr : S.roots = (S.put x y).roots + 1 := putAll_roots (i := S.which x y) M.hw (two_which hx hy hne hux huy)
 have hrow : RowAt h1 4 vs st.length (stc st) := M.rs.keep hF.next fun id h3 => hF.keep id (M.rs.lt id h3) (hnot id (M.ns id h3))
 have hnw : ∀ id ∈ vw.own, h2.get id = h.get id := fun id h3 => by
  have h4 := M.sk.lt id h3
  rw [L.keep id (Nat.lt_of_lt_of_le h4 hF.next) (fun h5 => M.ds id h5 h3), hF.keep id h4 (hnot id (M.nw id h3))]
 refine ⟨?_, M.hw.put hx hy hne hux huy, ?_, ?_, ?_, ?_, M.nw, ?_, fun q hq => ?_, ?_, ?_, M.base⟩
 ·exact hS1.keep L.next fun id h3 => L.keep id (hlt id h3) (hown id h3)
 ·refine ⟨Nat.le_trans (Nat.le_trans M.fr.next hF.next) L.next, fun id h3 h4 => ?_, fun id h3 => .inl h3⟩
  have h5 := M.fr.next
  have h6 := hF.next
  rw [L.keep id (by omega) (fun h7 => by have := M.ns id h7; omega), hF.keep id (by omega) h4, M.fr.keep id h3 h4]
 ·rw [stc_append]
  have h3 := L.row
  have h4 : stc [S.putStep x y] = (S.putStep x y).cells.map .d := by simp only [stc, List.flatMap_cons, List.flatMap_nil, List.append_nil]
  rw [h4, List.length_append]
  exact h3
 ·intro id h3
  rcases L.own id h3 with h4 | h4
  ·exact M.ns id h4
  ·have := M.fr.next; have := hF.next; omega
 ·exact M.sk.keep (Nat.le_trans hF.next L.next) hnw
 ·intro id h3 h4
  rcases L.own id h3 with h5 | h5
  ·exact M.ds id h5 h4
  ·have := M.sk.lt id h4; have := hF.next; omega
 ·rw [Store.put_nodes]; exact M.ok q hq
 ·exact room_put hr M.sz
 ·have h3 := M.zs
  rw [hr] at h3
  clear hr
  simp only [List.length_append, List.length_cons, List.length_nil]
  generalize (S.put x y).roots = r at h3 ⊢
  omega
end
end Go.Dv.Us
/- merge. -/
namespace Go.Dv.Us
open Go.Dv.K Go.Proofs
structure MIx where
 k : Nat
 S : Store
 st : List UStep
 w : List (Nat × Nat)
 vs : AV
 vw : AV
 h : Hp
theorem MI.less {h0 h : Hp} {s : Nat} {p : At} {S : Store} {st : List UStep} {w : List (Nat × Nat)} {vs vw : AV} {room room' : Nat} (M : MI h0 h s p S st w vs vw (room' + room)) : MI h0 h s p S st w vs vw room' :=
 { M with sz := Nat.le_trans (by rw [← Nat.add_assoc]; exact Nat.le_add_right _ _) M.sz }
theorem cast_beq (m n : Nat) : (((m : Nat) : Int) == ((n : Nat) : Int)) = decide (m = n) := by
 by_cases h : m = n
 ·subst h; simp
 ·rw [decide_eq_false h, beq_eq_false_iff_ne]
  exact fun h1 => h (Int.ofNat_inj.1 h1)
theorem Wf.rank_lt {S : Store} (hw : Wf S) (n : Nat) : S.ranks.getD n 0 < 2 ^ 40 := by
 have h1 : S.rank n + S.roots ≤ S.nodes.length := hw.rk n
 have h2 := hw.size
 have h3 : S.rank n ≤ S.nodes.length := Nat.le_trans (Nat.le_add_right _ _) h1
 exact Nat.lt_of_le_of_lt (Nat.le_trans h3 h2) (by decide)
theorem MI.rowKeep {h0 h h1 : Hp} {s : Nat} {p : At} {S : Store} {st : List UStep} {w : List (Nat × Nat)} {vs vw : AV} {room : Nat} (M : MI h0 h s p S st w vs vw room) (hF : Fram h h1 (p.own s) (p.own s)) : RowAt h1 4 vs st.length (stc st) :=
 M.rs.keep hF.next fun id h3 => hF.keep id (M.rs.lt id h3) fun h4 => by have := M.base id h4; have := M.ns id h3; omega
theorem cast_bne (m n : Nat) : (((m : Nat) : Int) != ((n : Nat) : Int)) = decide (m ≠ n) := by
 show (!(((m : Nat) : Int) == ((n : Nat) : Int))) = _
 rw [cast_beq]
 by_cases h : m = n <;> simp [h]
theorem argsRow {H : Nat → Option Obj} {x : UNode} (h : x.isnil = true → x.args = []) : RowN H (.d x.argsD) x.args := by
 unfold UNode.argsD
 split
 ·rename_i hn; rw [h hn]; exact .nil
 ·exact .imm
theorem argsD_isL (x : UNode) : AV.isL (.d x.argsD) = false := rfl
theorem Wf.form_nil {S : Store} (hw : Wf S) {n : Nat} (hn : n < S.nodes.length) : (S.form n).isnil = true → (S.form n).args = [] := hw.nil _ (formN_lt hw hn) _ (form_get hw hn)
theorem Wf.form_args {S : Store} (hw : Wf S) {n : Nat} (hn : n < S.nodes.length) : ∀ a ∈ (S.form n).args, a < S.nodes.length := hw.args _ (formN_lt hw hn) _ (form_get hw hn)
theorem Wf.form_len {S : Store} (hw : Wf S) {n : Nat} (hn : n < S.nodes.length) : (S.form n).args.length ≤ 2 ^ 12 := hw.alen _ (formN_lt hw hn) _ (form_get hw hn)
theorem MI.all {h0 h : Hp} {s : Nat} {p : At} {S : Store} {st : List UStep} {w : List (Nat × Nat)} {vs vw : AV} {room : Nat} (M : MI h0 h s p S st w vs vw room) : MI h0 h s p S st w vs vw 0 :=
 { M with sz := Nat.le_trans (Nat.add_le_add_left (Nat.zero_le room) _) M.sz }
theorem getD_mem {l : List Nat} {i : Nat} (h : i < l.length) : l.getD i 0 ∈ l := by
 rw [List.getD_eq_getElem?_getD, List.getElem?_eq_getElem h]
 exact List.getElem_mem h
theorem zip_take {l m : List Nat} {i : Nat} (h1 : i < l.length) (h2 : i < m.length) {w : List (Nat × Nat)} : ((l.zip m).take (i + 1)).reverse ++ w = (l.getD i 0, m.getD i 0) :: (((l.zip m).take i).reverse ++ w) := by
 have h3 : i < (l.zip m).length := by rw [List.length_zip]; omega
 rw [List.take_add_one, List.getElem?_eq_getElem h3]
 simp [h1, h2]
theorem MI.push {h0 h1 h2 : Hp} {s : Nat} {p : At} {S : Store} {st : List UStep} {w : List (Nat × Nat)} {vs vw v' : AV} {room c d : Nat} (M : MI h0 h1 s p S st w vs vw (room + 1)) (P : Pushed h1 vw 2 (w.length + 1) (prs w.reverse ++ [vint c, vint d]) h2 v')
  (hc : c < S.nodes.length) (hd : d < S.nodes.length) : MI h0 h2 s p S st ((c, d) :: w) vs v' room := by
 have hown : ∀ id ∈ p.own s, id ∉ vw.own := fun id h3 h4 => by have := M.base id h3; have := M.nw id h4; omega
 refine ⟨M.hS.keep (Nat.le_of_eq P.next) fun id h3 => P.keep id (hown id h3), M.hw, ?_, M.rs.keep (Nat.le_of_eq P.next) fun id h3 => P.keep id (M.ds id h3), M.ns, ?_, by rw [P.own]; exact M.nw, by rw [P.own]; exact M.ds, fun q hq => ?_, ?_, M.zs, M.base⟩
 ·refine ⟨Nat.le_trans M.fr.next (Nat.le_of_eq P.next), fun id h3 h4 => ?_, fun id h3 => .inl h3⟩
  rw [P.keep id (fun h5 => by have := M.nw id h5; omega), M.fr.keep id h3 h4]
 ·rw [List.reverse_cons, prs_append]
  exact P.stk
 ·rcases List.mem_cons.1 hq with h3 | h3
  ·subst h3; exact ⟨hc, hd⟩
  ·exact M.ok q h3
 ·have h3 := M.sz
  simp only [List.length_cons]
  omega
/-- What merge answers. -/
def Merged (h0 : Hp) (s : Nat) (p : At) (res : Store × List UStep × Bool) (v : AV) (h : Hp) : Prop :=
 ∃ vs, v = .tuple [vs, vint (if res.2.2 then 0 else 131)] ∧ StoreAt h s res.1 p ∧ Wf res.1 ∧ Fram h0 h (p.own s) (p.own s) ∧ RowAt h 4 vs res.2.1.length (stc res.2.1) ∧ (∀ id ∈ vs.own, h0.next ≤ id) ∧ ∀ id ∈ p.own s, id < h0.next
theorem merge_ret {free : Bool} {k : Nat} {h : Hp} {s : Nat} {S : Store} {p : At} (hS : StoreAt h s S p) (hw : Wf S) {a b : Nat} (ha : a < S.nodes.length) (hb : b < S.nodes.length) {res : Store × List UStep × Bool} (hres : Store.mergeF free k S [] [(a, b)] = some res) :
  Ret ctx Or Xo 69 [.ptr s 0 0, vint a, vint b, vbool free] h (Merged h s p res) := by
 have M0 : MI h (h.newC [vint a, vint b] 208) s p S [] [(a, b)] (.d .nilslice) (.msl h.next 0 1 0 2) 0 := by
  have e := Ext.newC h [vint a, vint b] 208
  refine ⟨hS.ext e, hw, e.fram _, .nil, fun id h1 => by simp [AV.own] at h1, .of (if_pos rfl) rfl (Nat.lt_succ_self _), fun id h1 => ?_, fun id h1 => by simp [AV.own] at h1, fun q hq => ?_, ?_, ?_, hS.toRows4.olt⟩
  ·simp [AV.own] at h1; omega
  ·simp at hq; subst hq; exact ⟨ha, hb⟩
  ·have h1 := hw.rk 0
   have h2 := hw.size
   have h3 : S.roots ≤ 2 ^ 12 := by omega
   have h4 : S.roots * 4096 ≤ 2 ^ 12 * 4096 := Nat.mul_le_mul_right _ h3
   simp only [List.length_cons, List.length_nil]
   omega
  ·have h1 := hw.rk 0
   have h2 := hw.size
   simp only [List.length_nil]
   omega
 refine body (env := [(0, .ptr s 0 0), (1, vint a), (2, vint b), (3, vbool free)]) (rs := [.tmp 8, .tmp 9]) Tryz.func69 rfl rfl Tryz.ntmps69 rfl rfl ?_
 refine s_seq <| s_region <| s_val rfl rfl rfl rfl <| s_val rfl rfl rfl rfl <| s_nil <| s_seq <| s_region <| s_val rfl rfl rfl rfl <| s_nil <| s_seq <| s_region ?_
 iterate 3 refine s_val rfl rfl rfl rfl ?_
 refine s_newCells rfl rfl rfl rfl ?_
 refine s_val rfl rfl rfl rfl <| s_nil <| s_seq <| s_block ?_
 refine s_rounds (ι := MIx) (fun i => ⟨[(0, .ptr s 0 0), (3, vbool free), (10, i.vs), (11, i.vw)], [], i.h⟩) (fun i => MI h i.h s p i.S i.st i.w i.vs i.vw 0 ∧ Store.mergeF free i.k i.S i.st i.w = some res) (fun i => i.k) ?_ ⟨k, S, [], [(a, b)], .d .nilslice, .msl h.next 0 1 0 2, h.newC [vint a, vint b] 208⟩ ⟨M0, hres⟩ ⟨⟨rfl, rfl, rfl, rfl, trivial⟩, trivial, rfl⟩
 rintro ⟨k, S, st, w, vs, vw, h1⟩ ⟨M, hres⟩
 simp only at M hres
 cases k with
 | zero => cases hres
 | succ k =>
 refine s_seq <| s_seq <| s_region <| s_val rfl rfl rfl rfl ?_
 refine s_val rfl (o_lenV rfl rfl (args1 rfl M.sk.isL) rfl (M.sk.lenKind rfl) M.sk.lenA_eq) rfl rfl ?_
 refine s_val rfl rfl rfl rfl <| s_nil ?_
 cases w with
 | nil =>
  refine s_cond_f rfl ?_
  refine s_exit ?_
  refine s_seq <| s_region ?_
  iterate 3 refine s_val rfl rfl rfl rfl ?_
  refine s_nil <| s_ret ?_
  simp only [Store.mergeF, Option.some.injEq] at hres
  subst hres
  exact ⟨.inr rfl, _, allSome2 (r_tmp rfl M.rs.cell.2.1) (r_tmp rfl rfl), vs, rfl, M.hS, M.hw, M.fr, M.rs, M.ns, M.base⟩
 | cons q w =>
  obtain ⟨a, b⟩ := q
  obtain ⟨ha, hb⟩ := M.ok (a, b) (by simp)
  simp only at ha hb
  obtain ⟨q1, hq1, hq2⟩ := M.top
  have hq1L := M.sk.idx_isL (C := ctx) (t := 209) (e := 208) rfl rfl hq1
  obtain ⟨v1, hv1, M1⟩ := M.pop
  have hgt : decide ((((a, b) :: w).length : Int) > 0) = true := decide_eq_true (by simp)
  have hsub : vint (IntKind.i64.wrap ((((a, b) :: w).length : Int) - 1)) = vint (w.length : Nat) := by
   have := M.sz
   simp only [List.length_cons] at this ⊢
   rw [wrap_id (by omega) (by omega)]
   congr 1
   push_cast
   omega
  refine s_cond_t (congrArg (fun b => some (vbool b)) hgt) ?_
  refine s_skip <| s_block <| s_seq <| s_region <| s_val rfl rfl rfl rfl <| s_val rfl rfl rfl rfl ?_
  refine s_val rfl (o_lenV rfl rfl (args1 rfl M.sk.isL) rfl (M.sk.lenKind rfl) M.sk.lenA_eq) rfl rfl ?_
  refine s_val rfl (o_eq rfl hsub) rfl rfl ?_
  refine s_val rfl (o_indexV rfl rfl rfl hq1) rfl rfl ?_
  refine s_val rfl (o_loadV rfl rfl (hq2 _)) rfl rfl ?_
  refine s_newL rfl rfl rfl rfl (by (iterate 13 (refine noL_cons (by first | exact M.rs.cell.2.1 | exact M.sk.isL | exact hq1L | rfl) ?_)); rfl) ?_
  refine s_setL rfl rfl rfl ?_
  refine s_nil <| s_seq <| s_region <| s_val rfl rfl rfl rfl <| s_val rfl rfl rfl rfl ?_
  refine s_val rfl (o_lenV rfl rfl (args1 rfl M.sk.isL) rfl (M.sk.lenKind rfl) M.sk.lenA_eq) rfl rfl ?_
  refine s_val rfl (o_eq rfl hsub) rfl rfl ?_
  refine s_val rfl (o_sliceV rfl rfl rfl hv1) rfl rfl ?_
  refine s_val rfl rfl rfl rfl <| s_nil <| s_seq ?_
  refine s_drawn { ord := [0, 1, 2, 3, 4, 5, 6, 7, 8, 9], wr := 136, fl := [(6, 0)], cl := [0, 0, 2, 7, 0, 0, 32, 127, 255, 511] } (by kernel_rfl) ?_
  iterate 3 refine d_val rfl rfl rfl rfl rfl ?_
  refine d_ret1 (find_ret M1.hS M1.hw a ha) rfl rfl rfl rfl rfl ?_
  rintro _ _ ⟨rfl, he⟩
  subst he
  iterate 3 refine d_val rfl rfl rfl rfl rfl ?_
  refine d_ret1 (find_ret M1.hS M1.hw b hb) rfl rfl rfl rfl rfl ?_
  rintro _ _ ⟨rfl, he⟩
  subst he
  refine d_val rfl rfl rfl rfl rfl <| d_val rfl rfl rfl rfl rfl ?_
  refine d_nil ⟨⟨fun _ _ _ => rfl, trivial⟩, trivial, ?_⟩
  have hx := find_lt M1.hw ha
  have hy := find_lt M1.hw hb
  have hux := find_root M1.hw ha
  have huy := find_root M1.hw hb
  simp only [Store.mergeF] at hres
  generalize hxe : S.find a = x at hx hux hres ⊢
  generalize hye : S.find b = y at hy huy hres ⊢
  refine s_seq <| s_seq <| s_region ?_
  iterate 3 refine s_val rfl rfl rfl rfl ?_
  refine s_nil ?_
  refine s_if rfl (fun ht => ?_) (fun ht => ?_)
  ·have hxy : x = y := Int.ofNat_inj.1 (eq_of_beq ht)
   rw [if_pos hxy] at hres
   refine s_exit ?_
   exact ⟨⟨k, S, st, w, vs, v1, _⟩, ⟨M1.less, hres⟩, Nat.lt_succ_self k, ⟨rfl, rfl, rfl, rfl, trivial⟩, trivial, rfl⟩
  ·have hxy : x ≠ y := by
    rintro rfl
    simp at ht
   rw [if_neg hxy] at hres
   refine s_skip ?_
   refine s_less (σ' := ⟨[(0, .ptr s 0 0), (3, vbool free), (10, vs), (11, v1), (13, vint x), (14, vint y)], [], _⟩) ⟨⟨rfl, rfl, rfl, rfl, rfl, rfl, trivial⟩, trivial, rfl⟩ ?_
   refine s_seq <| s_region <| s_val rfl rfl rfl rfl <| s_val rfl rfl rfl rfl ?_
   refine s_ret1 (form_ret M1.hS M1.hw x hx) rfl rfl rfl rfl ?_
   rintro _ h2 ⟨rfl, he⟩
   subst he
   refine s_val rfl rfl rfl rfl <| s_val rfl rfl rfl rfl ?_
   refine s_ret1 (form_ret M1.hS M1.hw y hy) rfl rfl rfl rfl ?_
   rintro _ h2 ⟨rfl, he⟩
   subst he
   refine s_newL rfl rfl rfl rfl (by (iterate 12 (first | refine noL_cons (by first | exact M1.rs.cell.2.1 | exact M1.sk.isL | rfl) ?_ | refine noL_l rfl ?_)); rfl) ?_
   refine s_newL rfl rfl rfl rfl (by (iterate 13 (first | refine noL_cons (by first | exact M1.rs.cell.2.1 | exact M1.sk.isL | rfl) ?_ | refine noL_l rfl ?_)); rfl) ?_
   refine s_setL rfl (o_storeL rfl rfl rfl rfl rfl rfl (node_cells _) rfl (Nat.le_refl 3)) rfl ?_
   refine s_setL rfl (o_storeL rfl rfl rfl rfl rfl rfl (node_cells _) rfl (Nat.le_refl 3)) rfl ?_
   refine s_nil ?_
   refine s_less (σ' := ⟨[(0, .ptr s 0 0), (3, vbool free), (10, vs), (11, v1), (13, vint x), (14, vint y), (15, .lptr 15 0), (16, .lptr 16 0)], [(15, (S.form x).cells.map .d), (16, (S.form y).cells.map .d)], _⟩) ⟨⟨rfl, rfl, rfl, rfl, rfl, rfl, rfl, rfl, trivial⟩, ⟨rfl, rfl, trivial⟩, rfl⟩ ?_
   refine s_seq ?_
   refine s_mid (ι := Bool) (fun c => ⟨[(0, .ptr s 0 0), (3, vbool free), (10, vs), (11, v1), (13, vint x), (14, vint y), (15, .lptr 15 0), (16, .lptr 16 0), (61, vbool c)], [(15, (S.form x).cells.map .d), (16, (S.form y).cells.map .d)], h2⟩) (fun c => c = (decide ((S.form x).kind = 1) || decide ((S.form y).kind = 1))) ?_ ?_
   ·refine s_region ?_
    by_cases hk1 : (S.form x).kind = 1
    ·refine s_val rfl rfl rfl rfl ?_
     refine s_val rfl rfl rfl rfl ?_
     refine s_val rfl (o_eq rfl (congrArg vbool (show ((((S.form x).kind : Nat) : Int) == 1) = true from (cast_beq _ 1).trans (decide_eq_true hk1)))) rfl rfl ?_
     refine s_val rfl rfl rfl rfl ?_
     iterate 3 refine s_no rfl rfl rfl ?_
     refine s_val rfl rfl rfl rfl <| s_nil ?_
     exact ⟨true, by simp [hk1], ⟨rfl, rfl, rfl, rfl, rfl, rfl, rfl, rfl, rfl, trivial⟩, ⟨rfl, rfl, trivial⟩, rfl⟩
    ·refine s_val rfl rfl rfl rfl ?_
     refine s_val rfl rfl rfl rfl ?_
     refine s_val rfl (o_eq rfl (congrArg vbool (show ((((S.form x).kind : Nat) : Int) == 1) = false from (cast_beq _ 1).trans (decide_eq_false hk1)))) rfl rfl ?_
     iterate 5 refine s_val rfl rfl rfl rfl ?_
     refine s_nil ?_
     exact ⟨((((S.form y).kind : Nat) : Int) == 1), (cast_beq _ 1).trans (by rw [decide_eq_false hk1]; rfl), ⟨rfl, rfl, rfl, rfl, rfl, rfl, rfl, rfl, rfl, trivial⟩, ⟨rfl, rfl, trivial⟩, rfl⟩
   ·rintro c hc
    refine s_if rfl (fun ht => ?_) (fun ht => ?_)
    ·rw [ht] at hc
     rw [if_pos (by simpa using hc.symm)] at hres
     refine s_seq <| s_seq <| s_region <| s_val rfl rfl rfl rfl <| s_val rfl rfl rfl rfl <| s_nil ?_
     refine s_if rfl (fun hu => ?_) (fun hu => ?_)
     ·have hfree : free = false := by simpa using hu
      subst hfree
      rw [if_neg (by decide)] at hres
      simp only [Option.some.injEq] at hres
      subst hres
      refine s_seq <| s_region ?_
      iterate 3 refine s_val rfl rfl rfl rfl ?_
      refine s_nil <| s_ret ?_
      exact ⟨.inr rfl, _, allSome2 (r_tmp rfl M1.rs.cell.2.1) (r_tmp rfl rfl), vs, rfl, M1.hS, M1.hw, M1.fr, M1.rs, M1.ns, M1.base⟩
     ·have hfree : free = true := by simpa using hu
      subst hfree
      rw [if_pos rfl] at hres
      refine s_skip <| s_seq <| s_region ?_
      iterate 4 refine s_val rfl rfl rfl rfl ?_
      refine s_ret1 (put_ret M1.hS M1.hw hx hy M1.hw.rank_lt) rfl rfl rfl rfl ?_
      rintro _ h3 ⟨rfl, hSp, hFp⟩
      refine s_val rfl rfl rfl rfl ?_
      refine s_append (M1.rowKeep hFp) rfl rfl rfl (args2 rfl M1.rs.cell.2.1 rfl rfl) rfl rfl rfl rfl rfl rfl (by decide) rfl (new := (S.putStep x y).cells.map .d) rfl rfl (by decide) rfl (by decide) (by have := M1.zs; omega) rfl rfl ?_
      intro h4 v4 L4
      have M2 := M1.put hx hy hxy hux huy hSp hFp L4
      refine s_val rfl rfl rfl rfl <| s_nil ?_
      refine s_exit ?_
      exact ⟨⟨k, S.put x y, _, w, v4, v1, h4⟩, ⟨M2.less.less, hres⟩, Nat.lt_succ_self k, ⟨rfl, rfl, rfl, rfl, trivial⟩, trivial, rfl⟩
    ·rw [ht] at hc
     rw [if_neg (by simpa using hc.symm)] at hres
     refine s_skip ?_
     have hr1 : ∀ H, RowN H (.d (S.form x).argsD) (S.form x).args := fun H => argsRow (M1.hw.form_nil hx)
     have hr2 : ∀ H, RowN H (.d (S.form y).argsD) (S.form y).args := fun H => argsRow (M1.hw.form_nil hy)
     refine s_seq ?_
     refine s_mid (ι := Bool) (fun c => ⟨[(0, .ptr s 0 0), (3, vbool free), (10, vs), (11, v1), (13, vint x), (14, vint y), (15, .lptr 15 0), (16, .lptr 16 0), (92, vbool c)], [(15, (S.form x).cells.map .d), (16, (S.form y).cells.map .d)], h2⟩) (fun c => c = (decide ((S.form x).kind ≠ (S.form y).kind) || decide ((S.form x).name ≠ (S.form y).name) || decide ((S.form x).args.length ≠ (S.form y).args.length))) ?_ ?_
     ·refine s_region ?_
      by_cases hk : (S.form x).kind = (S.form y).kind
      ·refine s_val rfl rfl rfl rfl ?_
       iterate 3 refine s_val rfl rfl rfl rfl ?_
       refine s_val rfl (o_eq rfl (congrArg vbool ((cast_bne (S.form x).kind (S.form y).kind).trans (decide_eq_false (fun h => h hk))))) rfl rfl ?_
       iterate 5 refine s_val rfl rfl rfl rfl ?_
       by_cases hn : (S.form x).name = (S.form y).name
       ·refine s_val rfl (o_eq rfl (congrArg vbool (show (!((S.form x).name == (S.form y).name)) = false by rw [hn]; simp))) rfl rfl ?_
        iterate 4 refine s_val rfl rfl rfl rfl ?_
        refine s_val rfl (o_lenV rfl rfl (args1 rfl (argsD_isL _)) rfl ((hr1 fun _ => none).lenKind rfl) (hr1 _).len) rfl rfl ?_
        refine s_val rfl rfl rfl rfl <| s_val rfl rfl rfl rfl ?_
        refine s_val rfl (o_lenV rfl rfl (args1 rfl (argsD_isL _)) rfl ((hr2 fun _ => none).lenKind rfl) (hr2 _).len) rfl rfl ?_
        refine s_val rfl rfl rfl rfl <| s_val rfl rfl rfl rfl <| s_nil ?_
        exact ⟨_, (cast_bne (S.form x).args.length (S.form y).args.length).trans (by simp [hk, hn]), ⟨rfl, rfl, rfl, rfl, rfl, rfl, rfl, rfl, rfl, trivial⟩, ⟨rfl, rfl, trivial⟩, rfl⟩
       ·refine s_val rfl (o_eq rfl (congrArg vbool (show (!((S.form x).name == (S.form y).name)) = true by simpa using hn))) rfl rfl ?_
        refine s_val rfl rfl rfl rfl <| s_val rfl rfl rfl rfl ?_
        iterate 7 refine s_no rfl rfl rfl ?_
        refine s_val rfl rfl rfl rfl <| s_nil ?_
        exact ⟨true, by simp [hn], ⟨rfl, rfl, rfl, rfl, rfl, rfl, rfl, rfl, rfl, trivial⟩, ⟨rfl, rfl, trivial⟩, rfl⟩
      ·refine s_val rfl rfl rfl rfl ?_
       iterate 3 refine s_val rfl rfl rfl rfl ?_
       refine s_val rfl (o_eq rfl (congrArg vbool ((cast_bne (S.form x).kind (S.form y).kind).trans (decide_eq_true hk)))) rfl rfl ?_
       refine s_val rfl rfl rfl rfl ?_
       iterate 5 refine s_no rfl rfl rfl ?_
       refine s_val rfl rfl rfl rfl <| s_val rfl rfl rfl rfl ?_
       iterate 7 refine s_no rfl rfl rfl ?_
       refine s_val rfl rfl rfl rfl <| s_nil ?_
       exact ⟨true, by simp [hk], ⟨rfl, rfl, rfl, rfl, rfl, rfl, rfl, rfl, rfl, trivial⟩, ⟨rfl, rfl, trivial⟩, rfl⟩
     ·rintro e he
      refine s_if rfl (fun hu => ?_) (fun hu => ?_)
      ·rw [hu] at he
       rw [if_pos (by simpa [or_assoc] using he.symm)] at hres
       simp only [Option.some.injEq] at hres
       subst hres
       refine s_seq <| s_region ?_
       iterate 3 refine s_val rfl rfl rfl rfl ?_
       refine s_nil <| s_ret ?_
       exact ⟨.inr rfl, _, allSome2 (r_tmp rfl M1.rs.cell.2.1) (r_tmp rfl rfl), vs, rfl, M1.hS, M1.hw, M1.fr, M1.rs, M1.ns, M1.base⟩
      ·rw [hu] at he
       have he2 : ¬((S.form x).kind ≠ (S.form y).kind ∨ (S.form x).name ≠ (S.form y).name ∨ (S.form x).args.length ≠ (S.form y).args.length) := by
         have := he.symm
         simp only [Bool.or_eq_false_iff, decide_eq_false_iff_not] at this
         rintro (h | h | h)
         ·exact this.1.1 h
         ·exact this.1.2 h
         ·exact this.2 h
       rw [if_neg he2] at hres
       have hlen : (S.form x).args.length = (S.form y).args.length := by
         have := fun h => he2 (.inr (.inr h))
         exact Decidable.not_not.1 this
       refine s_skip <| s_seq <| s_region ?_
       iterate 4 refine s_val rfl rfl rfl rfl ?_
       refine s_ret1 (put_ret M1.hS M1.hw hx hy M1.hw.rank_lt) rfl rfl rfl rfl ?_
       rintro _ h3 ⟨rfl, hSp, hFp⟩
       refine s_val rfl rfl rfl rfl ?_
       refine s_append (M1.rowKeep hFp) rfl rfl rfl (args2 rfl M1.rs.cell.2.1 rfl rfl) rfl rfl rfl rfl rfl rfl (by decide) rfl (new := (S.putStep x y).cells.map .d) rfl rfl (by decide) rfl (by decide) (by have := M1.zs; omega) rfl rfl ?_
       intro h4 v4 L4
       have M2 := M1.put hx hy hxy hux huy hSp hFp L4
       refine s_val rfl rfl rfl rfl <| s_nil <| s_seq <| s_region <| s_val rfl rfl rfl rfl <| s_val rfl rfl rfl rfl ?_
       refine s_val rfl (o_lenV rfl rfl (args1 rfl (argsD_isL _)) rfl ((hr1 fun _ => none).lenKind rfl) (hr1 _).len) rfl rfl ?_
       refine s_val rfl rfl rfl rfl <| s_nil <| s_block ?_
       refine s_rounds (ι := Nat × AV × Hp) (fun j => ⟨[(0, .ptr s 0 0), (3, vbool free), (10, v4), (11, j.2.1), (16, .lptr 16 0), (102, .d (S.form x).argsD), (103, vint (S.form x).args.length), (104, vint j.1)], [(15, (S.form x).cells.map .d), (16, (S.form y).cells.map .d)], j.2.2⟩) (fun j => j.1 ≤ (S.form x).args.length ∧ ∃ room, room + j.1 = 4097 ∧ MI h j.2.2 s p (S.put x y) (st ++ [S.putStep x y]) ((((S.form x).args.zip (S.form y).args).take j.1).reverse ++ w) v4 j.2.1 room) (fun j => (S.form x).args.length - j.1) ?_ ⟨0, v1, h4⟩ ⟨Nat.zero_le _, 4097, rfl, M2⟩ ⟨⟨rfl, rfl, rfl, rfl, rfl, rfl, rfl, rfl, trivial⟩, ⟨rfl, rfl, trivial⟩, rfl⟩
       rintro ⟨i, vw3, h5⟩ ⟨hi, room, hroom, M3⟩
       simp only at hi hroom M3
       refine s_seq <| s_region <| s_val rfl rfl rfl rfl <| s_nil <| s_seq ?_
       refine s_if rfl (fun hv => ?_) (fun hv => ?_)
       ·have hi1 : i < (S.form x).args.length := Int.ofNat_lt.1 (of_decide_eq_true hv)
        have hi2 : i < (S.form y).args.length := by omega
        obtain ⟨q5, hq5, hq6⟩ := (hr1 h5.get).read (C := ctx) (L := lk [(15, (S.form x).cells.map .d), (16, (S.form y).cells.map .d)]) hi1 (t := 72) (e := 3) rfl rfl rfl rfl
        obtain ⟨q7, hq7, hq8⟩ := (hr2 h5.get).read (C := ctx) (L := lk [(15, (S.form x).cells.map .d), (16, (S.form y).cells.map .d)]) hi2 (t := 72) (e := 3) rfl rfl rfl rfl
        refine s_skip <| s_seq <| s_block <| s_seq <| s_region <| s_val rfl rfl rfl rfl ?_
        refine s_val rfl (o_indexV rfl rfl rfl hq5) rfl rfl ?_
        refine s_val rfl (o_loadV rfl rfl hq6) rfl rfl ?_
        refine s_val rfl rfl rfl rfl <| s_val rfl rfl rfl rfl <| s_nil <| s_region ?_
        iterate 5 refine s_val rfl rfl rfl rfl ?_
        refine s_val rfl (o_indexV rfl rfl rfl hq7) rfl rfl ?_
        refine s_val rfl (o_loadV rfl rfl hq8) rfl rfl ?_
        refine s_val rfl rfl rfl rfl <| s_val rfl rfl rfl rfl ?_
        refine s_push M3.sk rfl rfl rfl (args2 rfl M3.sk.isL rfl rfl) rfl rfl rfl rfl rfl rfl (by decide) rfl (new := [vint ((S.form x).args.getD i 0 : Nat), vint ((S.form y).args.getD i 0 : Nat)]) rfl rfl (by decide) rfl (by have := M3.sz; omega) rfl rfl ?_
        intro h6 v6 P6
        refine s_val rfl rfl rfl rfl <| s_nil <| s_region ?_
        refine s_val rfl (o_eq rfl (wrap_succ (by omega))) rfl rfl ?_
        refine s_val rfl rfl rfl rfl <| s_nil ?_
        obtain ⟨room, rfl⟩ : ∃ r, room = r + 1 := ⟨room - 1, by have := M1.hw.form_len hx; omega⟩
        have M4 := M3.push P6 (by rw [Store.put_nodes]; exact M1.hw.form_args hx _ (getD_mem hi1)) (by rw [Store.put_nodes]; exact M1.hw.form_args hy _ (getD_mem hi2))
        refine ⟨⟨i + 1, v6, h6⟩, ⟨hi1, room, by simp only; omega, ?_⟩, by simp only; omega, ⟨rfl, rfl, rfl, rfl, rfl, rfl, rfl, rfl, trivial⟩, ⟨rfl, rfl, trivial⟩, rfl⟩
        simp only
        rw [zip_take hi1 hi2]
        exact M4
       ·have hie : i = (S.form x).args.length := by
          have := of_decide_eq_false hv
          omega
        refine s_exit ?_
        refine ⟨⟨k, S.put x y, _, ((S.form x).args.zip (S.form y).args).reverse ++ w, v4, vw3, h5⟩, ⟨?_, hres⟩, Nat.lt_succ_self k, ⟨rfl, rfl, rfl, rfl, trivial⟩, trivial, rfl⟩
        have hz : ((S.form x).args.zip (S.form y).args).take i = ((S.form x).args.zip (S.form y).args) := List.take_of_length_le (by rw [List.length_zip]; omega)
        rw [hz] at M3
        exact M3.all
end Go.Dv.Us
/- Backward. -/
namespace Go.Dv.Us
open Go.Dv.K Go.Proofs
theorem back126_ret {h : Hp} {v : AV} (hv : v.isCell = true) (hL : v.isL = false) (hc : v.cells = [v]) : Ret ctx Or Xo 126 [v] h (fun w h' => w = .clo 202 [] [.ptr h.next 0 0] ∧ h' = h.newV [v] 125) := by
 refine body (env := [(0, v)]) (rs := [.tmp 2]) Tryz.func126 rfl rfl Tryz.ntmps126 rfl rfl ?_
 refine s_seq <| s_region ?_
 refine s_newVar rfl (o_boxH rfl rfl rfl rfl hc hL hv rfl rfl) rfl rfl ?_
 refine s_val rfl rfl rfl rfl <| s_nil <| s_seq <| s_region <| s_val rfl rfl rfl rfl <| s_val rfl rfl rfl rfl <| s_nil <| s_ret ?_
 exact ⟨.inr rfl, _, rfl, rfl, rfl⟩
theorem back126_run {y b len : Nat} {v : AV} {x : Nat → AV} {I : Nat → Hp → Prop} (hlen : len ≤ 2 ^ 40) (hL : v.isL = false) (hx : ∀ i, (x i).isL = false) (hI : ∀ j h, I j h → h.get b = some (.cells [v] 0) ∧ Dv.lenA h.get v = some len ∧ lenKind ctx 125 v = true ∧
   ∀ i, i < len → ∃ q, indexAddrA ctx 125 v (vint i) = some q ∧ ∀ L, loadA ctx L h.get 211 q = some (x i))
  (hY : ∀ i h, i < len → I (i + 1) h → Yld ctx Or Xo y [vint i, x i] h (fun bb h' => bb = true ∧ I i h')) {h : Hp} (h0 : I len h) :
  Ret ctx Or Xo 202 [.yld y, .ptr b 0 0] h (fun _ h' => I 0 h') := by
 refine body (env := [(0, .yld y), (1, .ptr b 0 0)]) (rs := []) Tryz.func202 rfl rfl Tryz.ntmps202 rfl rfl ?_
 obtain ⟨hg, hl, hk, hr⟩ := hI _ _ h0
 have hm1 : ∀ j : Nat, j ≤ 2 ^ 40 → vint (IntKind.i64.wrap ((j : Int) - 1)) = vint ((j : Int) - 1) := fun j hj => by rw [wrap_id (by omega) (by omega)]
 refine s_seq <| s_region ?_
 refine s_val rfl (o_load rfl rfl rfl hg rfl rfl) rfl rfl ?_
 refine s_val rfl (o_lenV rfl rfl (args1 rfl hL) rfl hk hl) rfl rfl ?_
 refine s_val rfl (o_eq rfl (hm1 len hlen)) rfl rfl ?_
 refine s_val rfl rfl rfl rfl <| s_nil <| s_block ?_
 refine s_rounds (ι := Nat × Hp) (fun j => ⟨[(0, .yld y), (1, .ptr b 0 0), (3, vint ((j.1 : Int) - 1))], [], j.2⟩) (fun j => j.1 ≤ len ∧ I j.1 j.2) (fun j => j.1) ?_ ⟨len, h⟩ ⟨Nat.le_refl _, h0⟩ ⟨⟨rfl, rfl, rfl, trivial⟩, trivial, rfl⟩
 rintro ⟨j, h1⟩ ⟨hj, hIj⟩
 simp only at hj hIj
 obtain ⟨hg, hl, hk, hr⟩ := hI _ _ hIj
 refine s_seq <| s_seq <| s_region <| s_val rfl rfl rfl rfl <| s_val rfl rfl rfl rfl <| s_nil ?_
 cases j with
 | zero =>
  refine s_cond_f rfl ?_
  refine s_exit ?_
  exact ⟨.inl rfl, _, rfl, hIj⟩
 | succ i =>
  have hge : decide ((((i + 1 : Nat) : Int) - 1) ≥ 0) = true := decide_eq_true (by omega)
  have hi : vint (((i + 1 : Nat) : Int) - 1) = vint (i : Nat) := by congr 1; omega
  obtain ⟨q, hq1, hq2⟩ := hr i hj
  refine s_cond_t (congrArg (fun t => some (vbool t)) hge) ?_
  refine s_skip <| s_seq <| s_block <| s_seq <| s_region <| s_val rfl rfl rfl rfl ?_
  refine s_val rfl (o_eq rfl hi) rfl rfl ?_
  refine s_val rfl (o_load rfl rfl rfl hg rfl rfl) rfl rfl ?_
  refine s_val rfl (o_eq rfl hi) rfl rfl ?_
  refine s_val rfl (o_indexV rfl rfl rfl hq1) rfl rfl ?_
  refine s_val rfl (o_loadV rfl rfl (hq2 _)) rfl rfl ?_
  refine s_yield (hY i h1 hj hIj) rfl (c_yld rfl rfl rfl (args2 rfl rfl rfl (hx i))) rfl rfl ?_
  rintro _ h2 ⟨rfl, hI2⟩
  refine s_val rfl rfl rfl rfl <| s_nil <| s_cond_f rfl <| s_skip <| s_region ?_
  refine s_val rfl (o_eq rfl hi) rfl rfl ?_
  refine s_val rfl (o_eq rfl (hm1 i (by omega))) rfl rfl ?_
  refine s_val rfl rfl rfl rfl <| s_nil ?_
  exact ⟨⟨i, h2⟩, ⟨by simp only; omega, hI2⟩, Nat.lt_succ_self i, ⟨rfl, rfl, rfl, trivial⟩, trivial, rfl⟩
theorem back128_ret {h : Hp} {v : AV} (hv : v.isCell = true) (hL : v.isL = false) (hc : v.cells = [v]) : Ret ctx Or Xo 128 [v] h (fun w h' => w = .clo 203 [] [.ptr h.next 0 0] ∧ h' = h.newV [v] 72) := by
 refine body (env := [(0, v)]) (rs := [.tmp 2]) Tryz.func128 rfl rfl Tryz.ntmps128 rfl rfl ?_
 refine s_seq <| s_region ?_
 refine s_newVar rfl (o_boxH rfl rfl rfl rfl hc hL hv rfl rfl) rfl rfl ?_
 refine s_val rfl rfl rfl rfl <| s_nil <| s_seq <| s_region <| s_val rfl rfl rfl rfl <| s_val rfl rfl rfl rfl <| s_nil <| s_ret ?_
 exact ⟨.inr rfl, _, rfl, rfl, rfl⟩
theorem back128_run {y b len : Nat} {v : AV} {x : Nat → AV} {I : Nat → Hp → Prop} (hlen : len ≤ 2 ^ 40) (hL : v.isL = false) (hx : ∀ i, (x i).isL = false) (hI : ∀ j h, I j h → h.get b = some (.cells [v] 0) ∧ Dv.lenA h.get v = some len ∧ lenKind ctx 72 v = true ∧
   ∀ i, i < len → ∃ q, indexAddrA ctx 72 v (vint i) = some q ∧ ∀ L, loadA ctx L h.get 3 q = some (x i))
  (hY : ∀ i h, i < len → I (i + 1) h → Yld ctx Or Xo y [vint i, x i] h (fun bb h' => bb = true ∧ I i h')) {h : Hp} (h0 : I len h) :
  Ret ctx Or Xo 203 [.yld y, .ptr b 0 0] h (fun _ h' => I 0 h') := by
 refine body (env := [(0, .yld y), (1, .ptr b 0 0)]) (rs := []) Tryz.func203 rfl rfl Tryz.ntmps203 rfl rfl ?_
 obtain ⟨hg, hl, hk, hr⟩ := hI _ _ h0
 have hm1 : ∀ j : Nat, j ≤ 2 ^ 40 → vint (IntKind.i64.wrap ((j : Int) - 1)) = vint ((j : Int) - 1) := fun j hj => by rw [wrap_id (by omega) (by omega)]
 refine s_seq <| s_region ?_
 refine s_val rfl (o_load rfl rfl rfl hg rfl rfl) rfl rfl ?_
 refine s_val rfl (o_lenV rfl rfl (args1 rfl hL) rfl hk hl) rfl rfl ?_
 refine s_val rfl (o_eq rfl (hm1 len hlen)) rfl rfl ?_
 refine s_val rfl rfl rfl rfl <| s_nil <| s_block ?_
 refine s_rounds (ι := Nat × Hp) (fun j => ⟨[(0, .yld y), (1, .ptr b 0 0), (3, vint ((j.1 : Int) - 1))], [], j.2⟩) (fun j => j.1 ≤ len ∧ I j.1 j.2) (fun j => j.1) ?_ ⟨len, h⟩ ⟨Nat.le_refl _, h0⟩ ⟨⟨rfl, rfl, rfl, trivial⟩, trivial, rfl⟩
 rintro ⟨j, h1⟩ ⟨hj, hIj⟩
 simp only at hj hIj
 obtain ⟨hg, hl, hk, hr⟩ := hI _ _ hIj
 refine s_seq <| s_seq <| s_region <| s_val rfl rfl rfl rfl <| s_val rfl rfl rfl rfl <| s_nil ?_
 cases j with
 | zero =>
  refine s_cond_f rfl ?_
  refine s_exit ?_
  exact ⟨.inl rfl, _, rfl, hIj⟩
 | succ i =>
  have hge : decide ((((i + 1 : Nat) : Int) - 1) ≥ 0) = true := decide_eq_true (by omega)
  have hi : vint (((i + 1 : Nat) : Int) - 1) = vint (i : Nat) := by congr 1; omega
  obtain ⟨q, hq1, hq2⟩ := hr i hj
  refine s_cond_t (congrArg (fun t => some (vbool t)) hge) ?_
  refine s_skip <| s_seq <| s_block <| s_seq <| s_region <| s_val rfl rfl rfl rfl ?_
  refine s_val rfl (o_eq rfl hi) rfl rfl ?_
  refine s_val rfl (o_load rfl rfl rfl hg rfl rfl) rfl rfl ?_
  refine s_val rfl (o_eq rfl hi) rfl rfl ?_
  refine s_val rfl (o_indexV rfl rfl rfl hq1) rfl rfl ?_
  refine s_val rfl (o_loadV rfl rfl (hq2 _)) rfl rfl ?_
  refine s_yield (hY i h1 hj hIj) rfl (c_yld rfl rfl rfl (args2 rfl rfl rfl (hx i))) rfl rfl ?_
  rintro _ h2 ⟨rfl, hI2⟩
  refine s_val rfl rfl rfl rfl <| s_nil <| s_cond_f rfl <| s_skip <| s_region ?_
  refine s_val rfl (o_eq rfl hi) rfl rfl ?_
  refine s_val rfl (o_eq rfl (hm1 i (by omega))) rfl rfl ?_
  refine s_val rfl rfl rfl rfl <| s_nil ?_
  exact ⟨⟨i, h2⟩, ⟨by simp only; omega, hI2⟩, Nat.lt_succ_self i, ⟨rfl, rfl, rfl, trivial⟩, trivial, rfl⟩
end Go.Dv.Us
/- undo. -/
namespace Go.Dv.Us
open Go.Dv.K Go.Proofs
theorem stc_length : ∀ (l : List UStep), (stc l).length = l.length * 4
 | [] => rfl
 | x :: l => by
  have := stc_length l
  simp only [stc, List.flatMap_cons, List.length_append, UStep.cells, List.map_cons, List.map_nil, List.length_cons, List.length_nil] at this ⊢
  omega
theorem stc_drop : ∀ (l : List UStep) (i : Nat), (stc l).drop (i * 4) = stc (l.drop i)
 | l, 0 => by simp
 | [], i + 1 => by simp [stc]
 | x :: l, i + 1 => by
  rw [show (i + 1) * 4 = i * 4 + 4 by omega]
  show ((x.cells.map AV.d ++ stc l).drop (i * 4 + 4)) = stc (l.drop i)
  rw [← stc_drop l i]
  rfl
theorem stc_get {l : List UStep} {i : Nat} {x : UStep} (h : l[i]? = some x) : takeExact 4 (i * 4) (stc l) = some (x.cells.map .d) := by
 have hi : i < l.length := (List.getElem?_eq_some_iff.1 h).1
 have h1 : ((stc l).drop (i * 4)).take 4 = x.cells.map .d := by
  rw [stc_drop]
  have : l.drop i = x :: l.drop (i + 1) := by
   rw [List.drop_eq_getElem_cons hi]
   congr 1
   exact (List.getElem?_eq_some_iff.1 h).2
  rw [this]
  simp [stc, UStep.cells]
 unfold takeExact
 simp only [h1]
 rw [if_pos (by simp [UStep.cells])]
def step0 : UStep := ⟨0, 0, 0, 0⟩
def UStep.agg (x : UStep) : AV := .d (.agg x.cells)
theorem s_rangeR {C : Ctx} {Or : FuncId → List AV → Hp → AV → Hp → Prop} {Xo : FuncId → List AV → AV → Prop} {X : Fr} {Q : Ex → SSt → Prop} {env : List (Nat × AV)} {loc : List (Nat × List AV)} {h : Hp} {g : Operand} {ps : Array Tmp} {assign body : Code} {fv : AV} {f : FuncId} {args : List AV} {ke : List (Nat × AV)}
  {R : LoopR → AV → Hp → Prop} (hX : X.round = none) (hg : rho C (lk env) g = some fv)
  (hv : callValA fv [.yld h.next] = some (.call f args)) (hE : LeE ke env) (hL : ke.all (fun p => !p.2.isL) = true)
  (hr : ∀ rec, rec = loopOf X ke ps assign body → Ret C Or Xo f args (h.alloc (.loop rec)) (R rec))
  (hk : ∀ rec v h', R rec v h' → rec = loopOf X ke ps assign body → ∃ rec e, h'.get h.next = some (.loop rec) ∧ rec.state ≠ .busy ∧ rec.pending = Ex.code e ∧ Q e ⟨env, loc, h'.del h.next⟩) :
  wpC C Or Xo X (.rangeFunc g ps assign body) ⟨env, loc, h⟩ Q :=
 s_range hX hg hv hE hL (hr _ rfl) fun v h' hR => hk _ v h' hR rfl
/-- What holds between the rounds of undo. -/
structure UI (h0 : Hp) (s : Nat) (p : At) (N : List UNode) (bx b y : Nat) (v : AV) (st : List UStep) (rec : LoopR) (h : Hp) : Prop where
 store : ∃ S, StoreAt h s S p ∧ S.nodes = N
 fr : Fram h0 h (p.own s) (p.own s)
 gx : h.get bx = some (.cells [.ptr s 0 0] 0)
 gb : h.get b = some (.cells [v] 0)
 row : RowAt h 4 v st.length (stc st)
 gy : h.get y = some (.loop rec)
 nbx : bx ∉ p.own s
 nb : b ∉ p.own s
 ny : y ∉ p.own s
 nv : ∀ id ∈ v.own, id ∉ p.own s
 yx : y ≠ bx
 yb : y ≠ b
 yv : y ∉ v.own
 nx : h0.next + 3 ≤ h.next
 yh : ¬ y < h0.next
theorem UI.again {h0 hh hf : Hp} {s : Nat} {p : At} {N : List UNode} {bx b y : Nat} {v : AV} {st : List UStep} {rec : LoopR} {obB : Obj} {S3 : Store} (U : UI h0 s p N bx b y v st rec hh)
  (F : Fram (hh.set y obB) hf (p.own s) (p.own s)) (hS3 : StoreAt hf s S3 p) (hN : S3.nodes = N) (lx : bx < hh.next) (lb : b < hh.next) : UI h0 s p N bx b y v st rec (hf.set y (.loop rec)) := by
 have kk : ∀ id, id < hh.next → id ∉ p.own s → id ≠ y → (hf.set y (.loop rec)).get id = hh.get id := fun id l1 h2 h3 =>
  (Hp.get_set_ne h3).trans ((F.keep id l1 h2).trans (Hp.get_set_ne h3))
 have hn : hh.next ≤ hf.next := F.next
 refine { U with store := ⟨S3, hS3.keep (Nat.le_refl _) fun id h1 => Hp.get_set_ne fun h2 => U.ny (by rw [← h2]; exact h1), hN⟩, fr := ⟨Nat.le_trans U.fr.next hn, fun id h1 h2 => ?_, fun id h1 => .inl h1⟩, gx := ?_, gb := ?_, row := ?_, gy := Hp.get_set_eq, nx := Nat.le_trans U.nx hn }
 ·by_cases h3 : id = y
  ·exact absurd h3 (fun h4 => U.yh (by rw [← h4]; exact h1))
  ·rw [kk id (Nat.lt_of_lt_of_le h1 U.fr.next) h2 h3]
   exact U.fr.keep id h1 h2
 ·rw [kk bx lx U.nbx (fun h1 => U.yx h1.symm)]; exact U.gx
 ·rw [kk b lb U.nb (fun h1 => U.yb h1.symm)]; exact U.gb
 ·exact U.row.keep hn fun id h1 => kk id (U.row.lt id h1) (U.nv id h1) fun h2 => U.yv (by rw [← h2]; exact h1)
theorem undo_ret {h : Hp} {s : Nat} {S : Store} {p : At} {v : AV} {st : List UStep} (hS : StoreAt h s S p) (r : RowAt h 4 v st.length (stc st)) (hv : ∀ id ∈ v.own, id ∉ p.own s)
  (hst : ∀ i, i < st.length → (st.getD i step0).under < S.nodes.length ∧ (st.getD i step0).over < S.nodes.length) (hlen : st.length ≤ 2 ^ 40) :
  Ret ctx Or Xo 71 [.ptr s 0 0, v] h (fun _ h' => (∃ S', StoreAt h' s S' p ∧ S'.nodes = S.nodes) ∧ Fram h h' (p.own s) (p.own s)) := by
 refine body (env := [(0, .ptr s 0 0), (1, v)]) (rs := []) Tryz.func71 rfl rfl Tryz.ntmps71 rfl rfl ?_
 refine s_seq <| s_region ?_
 refine s_newVar rfl rfl rfl rfl ?_
 refine s_nil <| s_seq <| s_region <| s_val rfl rfl rfl rfl ?_
 refine s_ret1 (back126_ret r.cell.1 r.cell.2.1 r.cell.2.2) rfl (c_val rfl rfl rfl (args1 rfl r.cell.2.1)) rfl rfl ?_
 rintro _ h2 ⟨rfl, he⟩
 refine s_nil <| s_block ?_
 have hlt := hS.toRows4.olt
 have e2 : Ext h h2 := by rw [he]; exact (Ext.newV ..).trans (Ext.newV ..)
 have hn2 : h2.next = h.next + 2 := by rw [he]; rfl
 have g1 : h2.get h.next = some (.cells [.ptr s 0 0] 0) := by
  rw [he, Hp.get_newV, if_neg (by show h.next ≠ h.next + 1; omega), Hp.get_newV, if_pos rfl]; rfl
 have g2 : h2.get (h.next + 1) = some (.cells [v] 0) := by rw [he, Hp.get_newV]; exact if_pos rfl
 refine s_rangeR (ke := [(2, .ptr h.next 0 0)]) (R := fun rec _ hh => UI h s p S.nodes h.next (h.next + 1) (h.next + 2) v st rec hh) rfl rfl rfl ⟨rfl, trivial⟩ rfl ?_ ?_
 ·intro rec hrec
  rw [hn2]
  refine back126_run (len := st.length) (v := v) (x := fun i => (st.getD i step0).agg) (I := fun _ hh => UI h s p S.nodes h.next (h.next + 1) (h.next + 2) v st rec hh) hlen r.cell.2.1 (fun _ => rfl) ?_ ?_ ?_
  ·rintro j hh U
   refine ⟨U.gb, U.row.lenA_eq, U.row.lenKind rfl, fun i hi => ?_⟩
   have : st[i]? = some (st.getD i step0) := by simp [hi]
   exact U.row.read (C := ctx) hi (t := 125) (e := 211) rfl rfl rfl (stc_get this) rfl
  ·rintro i hh hi U
   subst hrec
   refine yld_of U.gy rfl ?_
   obtain ⟨S0, hS0, hN⟩ := U.store
   obtain ⟨hu, ho⟩ := hst i hi
   rw [← hN] at hu ho
   generalize hd : st.getD i step0 = d at hu ho ⊢
   refine s_region ?_
   refine s_newL rfl rfl rfl rfl rfl ?_
   refine s_setL rfl rfl rfl ?_
   refine s_nil ?_
   refine ⟨rfl, _, U.gy, rfl, ?_⟩
   refine s_less (σ' := ⟨[(2, .ptr h.next 0 0), (5, .lptr 5 0)], [(5, d.cells.map .d)], hh.set (h.next + 2) _⟩) ⟨⟨rfl, rfl, trivial⟩, ⟨rfl, trivial⟩, rfl⟩ ?_
   have k1 : ∀ (ob : Obj), StoreAt (hh.set (h.next + 2) ob) s S0 p := fun ob => hS0.keep (Nat.le_refl _) fun id h1 => Hp.get_set_ne fun h2 => U.ny (by rw [← h2]; exact h1)
   have gx1 : ∀ ob, (hh.set (h.next + 2) ob).get h.next = some (.cells [.ptr s 0 0] 0) := fun ob => (Hp.get_set_ne (by omega)).trans U.gx
   refine s_block <| s_seq ?_
   obtain ⟨q1, id1, ob1, hq1, hr1, hS1, hF1⟩ := (k1 _).set_a hu d.under
   refine s_drawn { ord := [0, 1, 2, 3, 4, 5, 6, 7, 8, 9], wr := 512, cl := [0, 1, 3, 7, 0, 16, 0, 64, 255, 511] } (by kernel_rfl) ?_
   refine d_val rfl rfl (o_load rfl rfl rfl (gx1 _) rfl rfl) rfl rfl ?_
   refine d_val rfl rfl rfl rfl rfl <| d_val rfl rfl rfl rfl rfl ?_
   refine d_val rfl rfl (o_load rfl rfl rfl (k1 _).st rfl rfl) rfl rfl ?_
   iterate 4 refine d_val rfl rfl rfl rfl rfl ?_
   refine d_val rfl rfl (o_indexV rfl rfl rfl hq1) rfl rfl ?_
   refine d_setH rfl rfl (o_storeV rfl rfl rfl (hr1 _)) rfl ?_
   refine d_nil ⟨trivial, trivial, ?_⟩
   have nx := U.nx
   have gx2 := (hF1.keep h.next (by rw [Hp.next_set]; omega) U.nbx).trans (gx1 _)
   refine s_seq ?_
   obtain ⟨q2, id2, ob2, hq2, hr2, hS2, hF2⟩ := hS1.set_f ho d.form
   refine s_drawn { ord := [0, 1, 2, 3, 4, 5, 6, 7, 8, 9], wr := 512, cl := [0, 1, 3, 7, 0, 16, 0, 64, 255, 511] } (by kernel_rfl) ?_
   refine d_val rfl rfl (o_load rfl rfl rfl gx2 rfl rfl) rfl rfl ?_
   refine d_val rfl rfl rfl rfl rfl <| d_val rfl rfl rfl rfl rfl ?_
   refine d_val rfl rfl (o_load rfl rfl rfl hS1.st rfl rfl) rfl rfl ?_
   iterate 4 refine d_val rfl rfl rfl rfl rfl ?_
   refine d_val rfl rfl (o_indexV rfl rfl rfl hq2) rfl rfl ?_
   refine d_setH rfl rfl (o_storeV rfl rfl rfl (hr2 _)) rfl ?_
   refine d_nil ⟨trivial, trivial, ?_⟩
   have gx3 := (hF2.keep h.next (by have := hF1.next; rw [Hp.next_set] at this; omega) U.nbx).trans gx2
   obtain ⟨q3, id3, ob3, hq3, hr3, hS3, hF3⟩ := hS2.set_r ho d.rank
   refine s_drawn { ord := [0, 1, 2, 3, 4, 5, 6, 7, 8, 9], wr := 512, cl := [0, 1, 3, 7, 0, 16, 0, 64, 255, 511] } (by kernel_rfl) ?_
   refine d_val rfl rfl (o_load rfl rfl rfl gx3 rfl rfl) rfl rfl ?_
   refine d_val rfl rfl rfl rfl rfl <| d_val rfl rfl rfl rfl rfl ?_
   refine d_val rfl rfl (o_load rfl rfl rfl hS2.st rfl rfl) rfl rfl ?_
   iterate 4 refine d_val rfl rfl rfl rfl rfl ?_
   refine d_val rfl rfl (o_indexV rfl rfl rfl hq3) rfl rfl ?_
   refine d_setH rfl rfl (o_storeV rfl rfl rfl (hr3 _)) rfl ?_
   refine d_nil ⟨trivial, trivial, ?_⟩
   have F := (hF1.trans hF2).trans hF3
   refine ⟨_, (F.keep (h.next + 2) (by rw [Hp.next_set]; omega) U.ny).trans Hp.get_set_eq, rfl, ?_⟩
   exact U.again F hS3 hN (by omega) (by omega)
  ·have e3 : Ext h (h2.alloc (.loop rec)) := e2.trans (Ext.alloc ..)
   refine ⟨⟨S, hS.ext e3, rfl⟩, e3.fram _, ?_, ?_, r.keep e3.next fun id h1 => e3.keep id (r.lt id h1), ?_, fun h1 => ?_, fun h1 => ?_, fun h1 => ?_, hv, by omega, by omega, fun h1 => ?_, by rw [Hp.next_alloc]; omega, by omega⟩
   ·rw [Hp.get_alloc, if_neg (by omega)]; exact g1
   ·rw [Hp.get_alloc, if_neg (by omega)]; exact g2
   ·rw [Hp.get_alloc, if_pos hn2.symm]
   ·have := hlt _ h1; omega
   ·have := hlt _ h1; omega
   ·have := hlt _ h1; omega
   ·have := r.lt _ h1; omega
 ·rintro rec w h' U hrec
  refine ⟨rec, .normal, by rw [hn2]; exact U.gy, by rw [hrec]; simp [loopOf], by rw [hrec]; rfl, .inl rfl, _, rfl, ?_⟩
  obtain ⟨S0, hS0, hN⟩ := U.store
  rw [hn2]
  have hdel : ∀ id, id ≠ h.next + 2 → (h'.del (h.next + 2)).get id = h'.get id := fun id h1 => if_neg h1
  refine ⟨⟨S0, hS0.keep (Nat.le_refl _) fun id h1 => hdel id fun h2 => U.ny (by rw [← h2]; exact h1), hN⟩, U.fr.next, fun id h1 h2 => ?_, fun id h1 => .inl h1⟩
  rw [hdel id (by omega)]
  exact U.fr.keep id h1 h2
end Go.Dv.Us
/- cyclic: the spec; the machine's rounds. -/
namespace Go.Dv.Us
open Go.Dv.K Go.Proofs
/-- Does a node stand within itself? The way's end is its head: a node, and which of its arguments comes next. -/
def Store.cycF (S : Store) : Nat → List (Nat × Nat) → List (Nat × Nat) → Option Bool
 | 0, _, _ => none
 | _ + 1, _, [] => some false
 | k + 1, m, (n, i) :: w =>
  if i = (S.form n).args.length then Store.cycF S k (putN m n 2) w
  else
   let a := S.find ((S.form n).args.getD i 0)
   if (getN m a).getD 0 = 1 then some true
   else if (getN m a).getD 0 = 0 then Store.cycF S k (putN m a 1) ((a, 0) :: (n, i + 1) :: w)
   else Store.cycF S k m ((n, i + 1) :: w)
def Store.cyc (S : Store) (k n : Nat) : Option Bool := S.cycF k (putN [] (S.find n) 1) [(S.find n, 0)]
end Go.Dv.Us
/- cyclic: the stack's top. -/
namespace Go.Dv.Us
open Go.Dv.K Go.Proofs
theorem prs_snoc_take {l : List (Nat × Nat)} {n i : Nat} {full : List AV} {len : Nat} (hl : l.length = len) (h : full.take ((len + 1) * 2) = prs (l ++ [(n, i)])) :
  full.take (len * 2) = prs l ∧ full[len * 2]? = some (vint n) ∧ full[len * 2 + 1]? = some (vint i) := by
 have hp : (prs l).length = len * 2 := by rw [prs_length, hl]
 rw [prs_append] at h
 have h1 : ∀ j, j < (len + 1) * 2 → full[j]? = (prs l ++ prs [(n, i)])[j]? := fun j hj => by
  rw [← h, List.getElem?_take_of_lt hj]
 refine ⟨?_, ?_, ?_⟩
 ·have : (full.take ((len + 1) * 2)).take (len * 2) = prs l := by
   rw [h, List.take_append_of_le_length (by omega), List.take_of_length_le (by omega)]
  rwa [List.take_take, Nat.min_eq_left (by omega)] at this
 ·rw [h1 _ (by omega), List.getElem?_append_right (by omega), hp]
  simp [prs]
 ·rw [h1 _ (by omega), List.getElem?_append_right (by omega), hp, show len * 2 + 1 - len * 2 = 1 by omega]
  simp [prs]
theorem StkTop {h : Hp} {v : AV} {w : List (Nat × Nat)} {n i : Nat} (r : StkAt h 2 v (w.length + 1) (prs ((n, i) :: w).reverse)) :
  ∃ id ver full, v = .msl id 0 (w.length + 1) ver 2 ∧ h.get id = some (.cells full ver) ∧ full[w.length * 2]? = some (vint n) ∧ full[w.length * 2 + 1]? = some (vint i) ∧
   ∀ z : Nat, StkAt (h.set id (.cells (putAt full (w.length * 2 + 1) [vint z]) ver)) 2 v (w.length + 1) (prs ((n, z) :: w).reverse) := by
 cases r with
 | mk hg hc hl hlt =>
  rename_i id ver full
  rw [List.reverse_cons] at hc
  obtain ⟨h1, h2, h3⟩ := prs_snoc_take (by simp) hc
  have hlen : w.length * 2 + 1 < full.length := (List.getElem?_eq_some_iff.1 h3).1
  refine ⟨id, ver, full, rfl, hg, h2, h3, fun z => .mk Hp.get_set_eq ?_ ?_ hlt⟩
  ·rw [List.reverse_cons, prs_append]
   apply List.ext_getElem?
   intro j
   have hp : (prs w.reverse).length = w.length * 2 := by rw [prs_length]; simp
   by_cases hj : j < (w.length + 1) * 2
   ·rw [List.getElem?_take_of_lt hj]
    simp only [putAt, List.length_cons, List.length_nil]
    by_cases hj1 : j < w.length * 2
    ·rw [List.getElem?_append_left (by simp; omega), List.getElem?_append_left (by simp; omega), List.getElem?_take_of_lt (by omega), List.getElem?_append_left (by omega), ← h1, List.getElem?_take_of_lt hj1]
    ·by_cases hj2 : j = w.length * 2
     ·subst hj2
      rw [List.getElem?_append_left (by simp; omega), List.getElem?_append_left (by simp; omega), List.getElem?_take_of_lt (by omega), List.getElem?_append_right (by omega), hp, h2]
      simp [prs]
     ·have hj3 : j = w.length * 2 + 1 := by omega
      subst hj3
      rw [List.getElem?_append_left (by simp; omega), List.getElem?_append_right (by simp; omega), List.getElem?_append_right (by omega), hp]
      simp [prs, show min (w.length * 2 + 1) full.length = w.length * 2 + 1 by omega]
   ·rw [List.getElem?_eq_none (by rw [List.length_take]; omega), List.getElem?_eq_none (by rw [List.length_append, hp]; simp [prs]; omega)]
  ·rw [prs_length]; simp
end Go.Dv.Us
