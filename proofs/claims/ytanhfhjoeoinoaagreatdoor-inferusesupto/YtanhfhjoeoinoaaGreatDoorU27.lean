/- A part of the proof of InferUses, second form: for every input of bulk at most 1048576 the call returns true and the arguments read as they did. Its condition: that bulk. -/
import Derived.Test.YtanhfhjoeoinoaaGreatDoorU24
import Derived.Test.YtanhfhjoeoinoaaGreatDoorU26
/- Unify. -/
namespace Go.Dv.Us
open Go.Dv.K Go.Proofs
theorem mergeF_len : ∀ {k : Nat} {S : Store} {st : List UStep} {w : List (Nat × Nat)} {S' : Store} {st' : List UStep} {b : Bool}, Store.mergeF true k S st w = some (S', st', b) → Wf S → (∀ q ∈ w, q.1 < S.nodes.length ∧ q.2 < S.nodes.length) → st'.length + S'.roots ≤ st.length + S.roots := by
 intro k
 induction k with
 | zero => intro S st w S' st' b h; cases h
 | succ k ih =>
  intro S st w S' st' b h hw hq
  cases w with
  | nil =>
   simp only [Store.mergeF, Option.some.injEq, Prod.mk.injEq] at h
   obtain ⟨rfl, rfl, _⟩ := h
   exact Nat.le_refl _
  | cons q w =>
   obtain ⟨x, y⟩ := q
   obtain ⟨hx, hy⟩ := hq (x, y) (by simp)
   simp only at hx hy
   have hq' : ∀ q ∈ w, q.1 < S.nodes.length ∧ q.2 < S.nodes.length := fun q h => hq q (by simp [h])
   have put : ∀ w', S.find x ≠ S.find y → (∀ q ∈ w', q.1 < S.nodes.length ∧ q.2 < S.nodes.length) → Store.mergeF true k (S.put (S.find x) (S.find y)) (st ++ [S.putStep (S.find x) (S.find y)]) w' = some (S', st', b) → st'.length + S'.roots ≤ st.length + S.roots := fun w' hne hw' h1 => by
    have h2 := ih h1 (hw.put (find_lt hw hx) (find_lt hw hy) hne (find_root hw hx) (find_root hw hy)) (by rw [Store.put_nodes]; exact hw')
    have h3 : S.roots = (S.put (S.find x) (S.find y)).roots + 1 := putAll_roots hw (two_which (find_lt hw hx) (find_lt hw hy) hne (find_root hw hx) (find_root hw hy))
    simp only [List.length_append, List.length_cons, List.length_nil] at h2
    omega
   simp only [Store.mergeF] at h
   split at h
   ·exact ih h hw hq'
   ·rename_i hne
    split at h
    ·simp only [if_true] at h
     exact put w hne hq' h
    ·split at h
     ·simp only [Option.some.injEq, Prod.mk.injEq] at h
      obtain ⟨rfl, rfl, _⟩ := h
      exact Nat.le_refl _
     ·refine put _ hne (fun q h1 => ?_) h
      rcases List.mem_append.1 h1 with h2 | h2
      ·have h3 := List.of_mem_zip (List.mem_reverse.1 h2)
       exact ⟨hw.form_args (find_lt hw hx) _ h3.1, hw.form_args (find_lt hw hy) _ h3.2⟩
      ·exact hq' q h2
theorem unify_ret {k : Nat} {h : Hp} {s : Nat} {S : Store} {p : At} (hS : StoreAt h s S p) (hw : Wf S) {a b : Nat} (ha : a < S.nodes.length) (hb : b < S.nodes.length) {S' : Store} {e : Nat} (hk0 : k ≤ 2 ^ 25) (hres : S.unify k a b = some (S', e)) :
  Ret ctx Or Xo 31 [.ptr s 0 0, vint a, vint b] h (fun v h' => v = vint e ∧ (e = 0 → StoreAt h' s S' p ∧ Wf S' ∧ S'.nodes = S.nodes) ∧ Fram h h' (p.own s) (p.own s)) := by
 refine body (env := [(0, .ptr s 0 0), (1, vint a), (2, vint b)]) (rs := [.tmp 6]) Tryz.func31 rfl rfl Tryz.ntmps31 rfl rfl ?_
 have e1 : Ext h (h.newC (nats [a, b]) 3) := Ext.newC ..
 have hlt := hS.toRows4.olt
 refine s_seq <| s_region <| s_val rfl rfl rfl rfl <| s_nil <| s_seq <| s_seq <| s_region ?_
 iterate 3 refine s_val rfl rfl rfl rfl ?_
 refine s_newCells rfl rfl rfl rfl ?_
 refine s_ret1 (known_ret (hS.ext e1) (l := [a, b]) (.row (if_pos rfl) rfl) (by simp)) rfl rfl rfl rfl ?_
 rintro _ _ ⟨rfl, rfl⟩
 have hk : ([a, b].all fun n => Nat.blt n S.nodes.length) = true := by
  simp only [List.all_cons, List.all_nil, Bool.and_true, Bool.and_eq_true]
  exact ⟨Nat.ble_eq_true_of_le ha, Nat.ble_eq_true_of_le hb⟩
 rw [hk]
 refine s_val rfl rfl rfl rfl <| s_nil <| s_cond_f rfl <| s_skip <| s_seq ?_
 cases hm : Store.mergeF true k S [] [(a, b)] with
 | none => unfold Store.unify at hres; rw [hm] at hres; cases hres
 | some res =>
 obtain ⟨hN, hw', hds⟩ := mergeF_nodes hm hw (fun q h => by simp at h; subst h; exact ⟨ha, hb⟩) (fun d h => by simp at h)
 obtain ⟨S1, st, ok⟩ := res
 unfold Store.unify at hres
 rw [hm] at hres
 simp only at hN hw' hds
 refine s_region ?_
 iterate 3 refine s_val rfl rfl rfl rfl ?_
 refine s_ret1 (merge_ret (hS.ext e1) hw ha hb hm) rfl rfl rfl rfl ?_
 rintro _ h2 ⟨vs, rfl, hS2, hw2, F2, r2, n2, b2⟩
 have F1 := (e1.fram (p.own s)).trans F2
 have ha' : a < S1.nodes.length := by rw [hN]; exact ha
 have hund : ∀ h3, Ext h2 h3 → Ret ctx Or Xo 71 [.ptr s 0 0, vs] h3 (fun _ h' => Fram h h' (p.own s) (p.own s)) := fun h3 e3 => by
  refine (undo_ret (hS2.ext e3) (r2.keep e3.next fun id h4 => e3.keep id (r2.lt id h4)) (fun id h4 h5 => ?_) (fun i hi => ?_) ?_).mono fun v h' h6 => (F1.trans (e3.fram _)).trans h6.2
  ·have := n2 id h4; have := hlt id h5; have := e1.next; omega
  ·have h4 : st.getD i step0 ∈ st := by rw [List.getD_eq_getElem?_getD, List.getElem?_eq_getElem hi]; simp
   have := hds _ h4
   rw [hN]; exact this
  ·have h4 := mergeF_len hm hw (fun q h => by simp at h; subst h; exact ⟨ha, hb⟩)
   have h5 : S.roots ≤ 2 ^ 12 := by
    have h6 : S.roots ≤ S.nodes.length := by
     unfold Store.roots
     have := List.countP_le_length (p := fun n => S.up n == n) (l := List.range S.nodes.length)
     simpa using this
    exact Nat.le_trans h6 hw.size
   simp only [List.length_nil, Nat.zero_add] at h4
   show st.length ≤ _
   omega
 iterate 5 refine s_val rfl rfl rfl rfl ?_
 refine s_nil ?_
 cases ok with
 | false =>
  simp only [Option.some.injEq, Prod.mk.injEq] at hres
  obtain ⟨_, rfl⟩ := hres
  refine s_seq <| s_seq <| s_region ?_
  iterate 3 refine s_val rfl rfl rfl rfl ?_
  iterate 3 refine s_no rfl rfl rfl ?_
  refine s_val rfl rfl rfl rfl <| s_val rfl rfl rfl rfl ?_
  iterate 3 refine s_no rfl rfl rfl ?_
  refine s_val rfl rfl rfl rfl <| s_nil <| s_cond_f rfl <| s_skip <| s_seq <| s_seq <| s_region <| s_val rfl rfl rfl rfl <| s_val rfl rfl rfl rfl <| s_nil <| s_cond_t rfl <| s_region <| s_val rfl rfl rfl rfl <| s_val rfl rfl rfl rfl ?_
  refine s_ret1 (hund h2 (Ext.refl h2)) rfl (c_val rfl rfl rfl (args2 rfl rfl rfl r2.cell.2.1)) rfl rfl ?_
  rintro _ h4 F4
  refine s_nil <| s_seq <| s_region <| s_val rfl rfl rfl rfl <| s_val rfl rfl rfl rfl <| s_nil <| s_ret ?_
  exact ⟨.inr rfl, _, rfl, rfl, (fun h => absurd h (by decide)), F4⟩
 | true =>
  cases st with
  | nil =>
   simp only [Option.some.injEq, Prod.mk.injEq] at hres
   obtain ⟨rfl, rfl⟩ := hres
   refine s_seq <| s_seq <| s_region ?_
   iterate 4 refine s_val rfl rfl rfl rfl ?_
   refine s_val rfl (o_lenV rfl rfl (args1 rfl r2.cell.2.1) rfl (r2.lenKind rfl) r2.lenA_eq) rfl rfl ?_
   iterate 3 refine s_val rfl rfl rfl rfl ?_
   iterate 3 refine s_no rfl rfl rfl ?_
   refine s_val rfl rfl rfl rfl <| s_nil <| s_cond_f rfl <| s_skip <| s_seq <| s_seq <| s_region <| s_val rfl rfl rfl rfl <| s_val rfl rfl rfl rfl <| s_nil <| s_cond_f rfl <| s_skip <| s_seq <| s_region <| s_val rfl rfl rfl rfl <| s_val rfl rfl rfl rfl <| s_nil <| s_ret ?_
   exact ⟨.inr rfl, _, rfl, rfl, fun _ => ⟨hS2, hw2, hN⟩, F1⟩
  | cons d st =>
   have hgt : decide ((((d :: st).length : Nat) : Int) > 0) = true := decide_eq_true (by simp)
   simp only at hres
   cases hc : S1.cyc k a with
   | none => rw [hc] at hres; cases hres
   | some c =>
   rw [hc] at hres
   cases c with
   | true =>
    simp only [Option.some.injEq, Prod.mk.injEq] at hres
    obtain ⟨_, rfl⟩ := hres
    refine s_seq <| s_seq <| s_region ?_
    iterate 4 refine s_val rfl rfl rfl rfl ?_
    refine s_val rfl (o_lenV rfl rfl (args1 rfl r2.cell.2.1) rfl (r2.lenKind rfl) r2.lenA_eq) rfl rfl ?_
    refine s_val rfl (o_eq rfl (congrArg vbool hgt)) rfl rfl ?_
    iterate 4 refine s_val rfl rfl rfl rfl ?_
    refine s_ret1 (cyclic_ret hS2 hw2 ha' hk0 hc) rfl (c_val rfl rfl rfl (args2 rfl rfl rfl rfl)) rfl rfl ?_
    rintro _ h3 ⟨rfl, e3⟩
    refine s_val rfl rfl rfl rfl <| s_nil <| s_cond_t rfl <| s_region <| s_val rfl rfl rfl rfl <| s_nil <| s_seq <| s_seq <| s_region <| s_val rfl rfl rfl rfl <| s_val rfl rfl rfl rfl <| s_nil <| s_cond_t rfl <| s_region <| s_val rfl rfl rfl rfl <| s_val rfl rfl rfl rfl ?_
    refine s_ret1 (hund h3 e3) rfl (c_val rfl rfl rfl (args2 rfl rfl rfl r2.cell.2.1)) rfl rfl ?_
    rintro _ h4 F4
    refine s_nil <| s_seq <| s_region <| s_val rfl rfl rfl rfl <| s_val rfl rfl rfl rfl <| s_nil <| s_ret ?_
    exact ⟨.inr rfl, _, rfl, rfl, (fun h => absurd h (by decide)), F4⟩
   | false =>
    simp only [Option.some.injEq, Prod.mk.injEq] at hres
    obtain ⟨rfl, rfl⟩ := hres
    refine s_seq <| s_seq <| s_region ?_
    iterate 4 refine s_val rfl rfl rfl rfl ?_
    refine s_val rfl (o_lenV rfl rfl (args1 rfl r2.cell.2.1) rfl (r2.lenKind rfl) r2.lenA_eq) rfl rfl ?_
    refine s_val rfl (o_eq rfl (congrArg vbool hgt)) rfl rfl ?_
    iterate 4 refine s_val rfl rfl rfl rfl ?_
    refine s_ret1 (cyclic_ret hS2 hw2 ha' hk0 hc) rfl (c_val rfl rfl rfl (args2 rfl rfl rfl rfl)) rfl rfl ?_
    rintro _ h3 ⟨rfl, e3⟩
    refine s_val rfl rfl rfl rfl <| s_nil <| s_cond_f rfl <| s_skip <| s_seq <| s_seq <| s_region <| s_val rfl rfl rfl rfl <| s_val rfl rfl rfl rfl <| s_nil <| s_cond_f rfl <| s_skip <| s_seq <| s_region <| s_val rfl rfl rfl rfl <| s_val rfl rfl rfl rfl <| s_nil <| s_ret ?_
    exact ⟨.inr rfl, _, rfl, rfl, fun _ => ⟨hS2.ext e3, hw2, hN⟩, F1.trans (e3.fram _)⟩
end Go.Dv.Us
/- Size. -/
namespace Go.Dv.Us
open Go.Dv.K Go.Proofs
/-- A stack of numbers; the head is its end. -/
def NStk (h : Hp) (v : AV) (w : List Nat) : Prop := StkAt h 1 v w.length (nats w.reverse)
section
variable {h h' : Hp} {v v' : AV} {w l : List Nat} {n : Nat}
theorem NStk.pop (r : NStk h v (n :: w)) : ∃ v', sliceA ctx 72 v none (some (vint w.length)) = some v' ∧ NStk h v' w ∧ v'.own = v.own := by
 obtain ⟨v', h1, h2, h3⟩ := StkAt.pop (C := ctx) (len := w.length) r (t := 72) (e := 3) rfl rfl rfl
 have he : (nats (w.reverse ++ [n])).take (w.length * 1) = nats w.reverse := by
  rw [nats_append, List.take_append_of_le_length (by rw [nats_length]; simp), List.take_of_length_le (by rw [nats_length]; simp)]
 rw [List.reverse_cons, he] at h2
 exact ⟨v', h1, h2, h3⟩
theorem NStk.top (r : NStk h v (n :: w)) : ∃ q, indexAddrA ctx 72 v (vint w.length) = some q ∧ ∀ L, loadA ctx L h.get 3 q = some (vint n) := by
 have ht : takeExact 1 (w.length * 1) (nats (n :: w).reverse) = some [vint n] := by
  rw [List.reverse_cons, nats_append]
  unfold takeExact
  rw [List.drop_append_of_le_length (by rw [nats_length]; simp), List.drop_of_length_le (by rw [nats_length]; simp)]
  rfl
 exact StkAt.read (C := ctx) (len := w.length + 1) r (Nat.lt_succ_self _) (t := 72) (e := 3) rfl rfl rfl ht rfl
theorem NStk.pushed (P : Pushed h v 1 (w.length + l.length) (nats w.reverse ++ nats l) h' v') : NStk h' v' (l.reverse ++ w) := by
 have := P.stk
 unfold NStk
 rw [List.reverse_append, List.reverse_reverse, nats_append, List.length_append, List.length_reverse, Nat.add_comm]
 exact this
theorem NStk.keep (r : NStk h v w) (hn : h.next ≤ h'.next) (hk : ∀ id ∈ v.own, h'.get id = h.get id) : NStk h' v w := StkAt.keep r hn hk
end
theorem subOne {n : Nat} (hn : n < 2 ^ 40) : vint (IntKind.i64.wrap (((n + 1 : Nat) : Int) - 1)) = vint (n : Nat) := by
 rw [wrap_id (by omega) (by omega)]
 congr 1
 omega
theorem addNat {a b : Nat} (h : a + b < 2 ^ 40) : vint (IntKind.i64.wrap ((a : Int) + (b : Int))) = vint ((a + b : Nat) : Int) := by
 rw [wrap_id (by omega) (by omega)]
 congr 1
/-- Nodes that stand for types. -/
def Dens (S : Store) (w : List Nat) (ts : List Ty) : Prop := ts.length = w.length ∧ ∀ i, i < w.length → w.getD i 0 < S.nodes.length ∧ Den S (w.getD i 0) (ts.getD i default)
theorem Dens.head {S : Store} {n : Nat} {w : List Nat} {ts : List Ty} (h : Dens S (n :: w) ts) : ∃ t r, ts = t :: r ∧ n < S.nodes.length ∧ Den S n t ∧ Dens S w r := by
 obtain ⟨hl, hd⟩ := h
 cases ts with
 | nil => simp at hl
 | cons t r =>
  have h0 := hd 0 (by simp)
  refine ⟨t, r, rfl, h0.1, h0.2, by simpa using hl, fun i hi => ?_⟩
  have := hd (i + 1) (by simp; omega)
  simpa using this
theorem Dens.append {S : Store} {v w : List Nat} {ts rs : List Ty} (h : Dens S v ts) (g : Dens S w rs) : Dens S (v ++ w) (ts ++ rs) := by
 refine ⟨by simp [h.1, g.1], fun i hi => ?_⟩
 by_cases h1 : i < v.length
 ·have := h.2 i h1
  rw [List.getD_eq_getElem?_getD, List.getD_eq_getElem?_getD] at this ⊢
  rw [List.getElem?_append_left h1, List.getElem?_append_left (by rw [h.1]; exact h1)]
  exact this
 ·have := g.2 (i - v.length) (by simp at hi; omega)
  rw [List.getD_eq_getElem?_getD, List.getD_eq_getElem?_getD] at this ⊢
  rw [List.getElem?_append_right (by omega), List.getElem?_append_right (by rw [h.1]; omega), h.1]
  exact this
theorem Dens.reverse {S : Store} {w : List Nat} {ts : List Ty} (h : Dens S w ts) : Dens S w.reverse ts.reverse := by
 refine ⟨by simp [h.1], fun i hi => ?_⟩
 simp at hi
 have := h.2 (w.length - 1 - i) (by omega)
 rw [List.getD_eq_getElem?_getD, List.getD_eq_getElem?_getD] at this ⊢
 rw [List.getElem?_reverse hi, List.getElem?_reverse (by rw [h.1]; exact hi), h.1]
 exact this
/-- A node's arguments. -/
theorem Den.parts {S : Store} (hw : Wf S) (nok : ∀ n, n < S.nodes.length → (S.form n).kind = 1 → (S.form n).args = []) {n : Nat} {T : Ty} (hn : n < S.nodes.length) (d : Den S n T) : ∃ ts, Dens S (S.form n).args ts ∧ T.size = 1 + Ty.sizeL ts := by
 cases d with
 | var h => rw [nok n hn h]; exact ⟨[], ⟨rfl, fun i hi => absurd hi (Nat.not_lt_zero _)⟩, rfl⟩
 | @app _ ts h hl ha => exact ⟨ts, ⟨hl, fun i hi => ⟨arg_lt hw hn hi, ha i (by rw [hl]; exact hi)⟩⟩, rfl⟩
theorem sizeL_reverse (l : List Ty) : Ty.sizeL l.reverse = Ty.sizeL l := by
 induction l with
 | nil => rfl
 | cons a l ih => simp only [List.reverse_cons, Ty.sizeL_append, Ty.sizeL, ih]; omega
def size301 (n : Nat) : Nat := if n ≤ 300 then n else 301
structure SI (h0 h : Hp) (s : Nat) (S : Store) (p : At) (c : Nat) (w : List Nat) (vw : AV) (T : Ty) : Prop where
 hS : StoreAt h s S p
 fr : Ext h0 h
 sk : NStk h vw w
 own : ∀ id ∈ vw.own, h0.next ≤ id
 den : ∃ ts, Dens S w ts ∧ c + Ty.sizeL ts = T.size
 le : c + w.length ≤ 300
structure SIx where
 c : Nat
 w : List Nat
 vw : AV
 h : Hp
theorem size_ret {h : Hp} {s : Nat} {S : Store} {p : At} (hS : StoreAt h s S p) (hw : Wf S) (nok : ∀ n, n < S.nodes.length → (S.form n).kind = 1 → (S.form n).args = []) {n : Nat} (hn : n < S.nodes.length) {T : Ty} (hT : Den S n T) :
  Ret ctx Or Xo 32 [.ptr s 0 0, vint n] h (fun v h' => v = vint (size301 T.size : Nat) ∧ Ext h h') := by
 refine body (env := [(0, .ptr s 0 0), (1, vint n)]) (rs := [.tmp 4]) Tryz.func32 rfl rfl Tryz.ntmps32 rfl rfl ?_
 have e1 : Ext h (h.newC (nats [n]) 3) := Ext.newC ..
 have hlt := hS.toRows4.olt
 refine s_seq <| s_region <| s_val rfl rfl rfl rfl <| s_nil <| s_seq <| s_seq <| s_region <| s_val rfl rfl rfl rfl <| s_val rfl rfl rfl rfl ?_
 refine s_newCells rfl rfl rfl rfl ?_
 refine s_ret1 (known_ret (hS.ext e1) (l := [n]) (.row (if_pos rfl) rfl) (by simp)) rfl rfl rfl rfl ?_
 rintro _ _ ⟨rfl, rfl⟩
 have hk : ([n].all fun n => Nat.blt n S.nodes.length) = true := by
  simp only [List.all_cons, List.all_nil, Bool.and_true]
  exact Nat.ble_eq_true_of_le hn
 rw [hk]
 refine s_val rfl rfl rfl rfl <| s_nil <| s_cond_f rfl <| s_skip <| s_seq <| s_region <| s_val rfl rfl rfl rfl <| s_nil <| s_seq <| s_region <| s_val rfl rfl rfl rfl ?_
 refine s_newCells rfl rfl rfl rfl ?_
 refine s_val rfl rfl rfl rfl <| s_nil <| s_seq <| s_block ?_
 have e2 : Ext h ((h.newC (nats [n]) 3).newC (nats [n]) 3) := e1.trans (Ext.newC ..)
 have C0 : SI h ((h.newC (nats [n]) 3).newC (nats [n]) 3) s S p 0 [n] (.msl (h.next + 1) 0 1 0 1) T := by
  refine ⟨hS.ext e2, e2, .of (if_pos rfl) rfl (Nat.lt_succ_self _), fun id h1 => ?_, ⟨[T], ⟨rfl, fun i hi => ?_⟩, by simp [Ty.sizeL]⟩, by simp⟩
  ·simp [AV.own] at h1; omega
  ·have : i = 0 := by simp at hi; exact hi
   subst this
   exact ⟨hn, hT⟩
 refine s_rounds (ι := SIx) (fun i => ⟨[(0, .ptr s 0 0), (5, vint i.c), (6, i.vw)], [], i.h⟩) (fun i => SI h i.h s S p i.c i.w i.vw T) (fun i => 301 - i.c) ?_ ⟨0, [n], .msl (h.next + 1) 0 1 0 1, _⟩ C0 ⟨⟨rfl, rfl, rfl, trivial⟩, trivial, rfl⟩
 rintro ⟨c, w, vw, h3⟩ M
 simp only at M
 obtain ⟨ts, hd, hsum⟩ := M.den
 have hle := M.le
 refine s_seq <| s_seq <| s_region <| s_val rfl rfl rfl rfl ?_
 refine s_val rfl (o_lenV rfl rfl (args1 rfl M.sk.isL) rfl (M.sk.lenKind rfl) M.sk.lenA_eq) rfl rfl ?_
 refine s_val rfl rfl rfl rfl <| s_nil ?_
 cases w with
 | nil =>
  refine s_cond_f rfl ?_
  refine s_exit ?_
  refine s_seq <| s_region <| s_val rfl rfl rfl rfl <| s_val rfl rfl rfl rfl <| s_nil <| s_ret ?_
  have : T.size = c := by
   have h1 := hd.1
   have h2 : ts = [] := List.length_eq_zero_iff.1 h1
   subst h2
   simp only [Ty.sizeL] at hsum; omega
  refine ⟨.inr rfl, _, rfl, ?_, M.fr⟩
  rw [this]
  unfold size301
  rw [if_pos (by omega)]; rfl
 | cons a w =>
  obtain ⟨t, r, rfl, ha, hta, hr⟩ := hd.head
  obtain ⟨q1, hq1, hq2⟩ := M.sk.top
  obtain ⟨v1, hv1, sk1, own1⟩ := M.sk.pop
  obtain ⟨us, hus, htsz⟩ := hta.parts hw nok ha
  have hra : ∀ H, RowN H (.d (S.form a).argsD) (S.form a).args := fun H => argsRow (hw.form_nil ha)
  have hgt : decide ((((a :: w).length : Nat) : Int) > 0) = true := decide_eq_true (by simp)
  simp only [List.length_cons] at hle
  simp only [Ty.sizeL] at hsum
  have hsub : vint (IntKind.i64.wrap ((((a :: w).length : Nat) : Int) - 1)) = vint (w.length : Nat) := subOne (by omega)
  have hal := hw.form_len ha
  refine s_cond_t (congrArg (fun t => some (vbool t)) hgt) ?_
  refine s_skip <| s_block <| s_seq <| s_region ?_
  iterate 3 refine s_val rfl rfl rfl rfl ?_
  refine s_val rfl (o_lenV rfl rfl (args1 rfl M.sk.isL) rfl (M.sk.lenKind rfl) M.sk.lenA_eq) rfl rfl ?_
  refine s_val rfl (o_eq rfl (hsub)) rfl rfl ?_
  refine s_val rfl (o_indexV rfl rfl rfl hq1) rfl rfl ?_
  refine s_val rfl (o_loadV rfl rfl (hq2 _)) rfl rfl ?_
  refine s_ret1 (form_ret M.hS hw a ha) rfl rfl rfl rfl ?_
  rintro _ _ ⟨rfl, rfl⟩
  refine s_val rfl rfl rfl rfl <| s_val rfl rfl rfl rfl <| s_nil <| s_seq <| s_region <| s_val rfl rfl rfl rfl <| s_val rfl rfl rfl rfl ?_
  refine s_val rfl (o_lenV rfl rfl (args1 rfl M.sk.isL) rfl (M.sk.lenKind rfl) M.sk.lenA_eq) rfl rfl ?_
  refine s_val rfl (o_eq rfl (hsub)) rfl rfl ?_
  refine s_val rfl (o_sliceV rfl rfl rfl hv1) rfl rfl ?_
  refine s_val rfl rfl rfl rfl <| s_nil <| s_seq <| s_region <| s_val rfl rfl rfl rfl ?_
  refine s_val rfl (o_eq rfl (wrap_succ (n := c) (by omega))) rfl rfl ?_
  refine s_val rfl rfl rfl rfl <| s_nil <| s_seq <| s_seq <| s_region <| s_val rfl rfl rfl rfl <| s_val rfl rfl rfl rfl ?_
  refine s_val rfl (o_lenV rfl rfl (args1 rfl sk1.isL) rfl (sk1.lenKind rfl) sk1.lenA_eq) rfl rfl ?_
  refine s_val rfl (o_eq rfl (addNat (a := c + 1) (b := w.length) (by omega))) rfl rfl ?_
  refine s_val rfl rfl rfl rfl ?_
  refine s_val rfl (o_lenV rfl rfl (args1 rfl (argsD_isL _)) rfl ((hra fun _ => none).lenKind rfl) (hra _).len) rfl rfl ?_
  refine s_val rfl (o_eq rfl (addNat (a := c + 1 + w.length) (b := (S.form a).args.length) (by omega))) rfl rfl ?_
  refine s_val rfl rfl rfl rfl <| s_nil ?_
  have hl1 := Ty.sizeL_ge us
  have hl2 := Ty.sizeL_ge r
  have hl3 := hus.1
  have hl4 := hr.1
  have hpos := t.size_pos
  refine s_if rfl (fun ht => ?_) (fun ht => ?_)
  ·skip
   have hbig : c + 1 + w.length + (S.form a).args.length > 300 := by
    have := of_decide_eq_true ht
    omega
   refine s_seq <| s_region <| s_val rfl rfl rfl rfl <| s_nil <| s_ret ?_
   refine ⟨.inr rfl, _, rfl, ?_, M.fr⟩
   unfold size301
   rw [if_neg (by omega)]; rfl
  ·skip
   have hsm : c + 1 + w.length + (S.form a).args.length ≤ 300 := by
    have := of_decide_eq_false ht
    omega
   refine s_skip <| s_region <| s_val rfl rfl rfl rfl <| s_val rfl rfl rfl rfl ?_
   refine s_push (len := w.length) sk1 rfl rfl rfl (args2 rfl sk1.isL rfl (argsD_isL _)) rfl rfl rfl rfl rfl rfl (by decide) (hra _).len (new := nats (S.form a).args) (hra _).elems (nats_cells _) (by omega) (by rw [nats_length, Nat.mul_one]) (by omega) rfl rfl ?_
   intro h5 v5 P5
   refine s_val rfl rfl rfl rfl <| s_nil ?_
   refine ⟨⟨c + 1, (S.form a).args.reverse ++ w, v5, h5⟩, ⟨M.hS.keep (Nat.le_of_eq P5.next) fun id h6 => P5.keep id fun h7 => ?_, ⟨Nat.le_trans M.fr.next (Nat.le_of_eq P5.next), fun id h6 => ?_⟩, NStk.pushed P5, ?_, ⟨us.reverse ++ r, hus.reverse.append hr, ?_⟩, ?_⟩, ?_, ⟨rfl, rfl, rfl, trivial⟩, trivial, rfl⟩
   ·rw [own1] at h7; have := M.own id h7; have := hlt id h6; omega
   ·rw [P5.keep id (fun h7 => by rw [own1] at h7; have := M.own id h7; omega)]; exact M.fr.keep id h6
   ·rw [P5.own, own1]; exact M.own
   ·rw [Ty.sizeL_append, sizeL_reverse]; simp only; omega
   ·simp only [List.length_append, List.length_reverse]; omega
   ·simp only; omega
end Go.Dv.Us
/- The variables within nodes: the function that tells them. -/
namespace Go.Dv.Us
open Go.Dv.K Go.Proofs
theorem dfs_pre {S : Store} : ∀ {k : Nat} {m : List (Nat × Nat)} {w out : List Nat} {m' : List (Nat × Nat)} {ys : List Nat}, S.dfs k m w out = some (m', ys) → ∃ r, ys = out ++ r := by
 intro k
 induction k with
 | zero => intro m w out m' ys h; cases h
 | succ k ih =>
  intro m w out m' ys h
  cases w with
  | nil => simp only [Store.dfs, Option.some.injEq, Prod.mk.injEq] at h; exact ⟨[], by rw [h.2]; simp⟩
  | cons a w =>
   simp only [Store.dfs] at h
   split at h
   ·exact ih h
   ·obtain ⟨r, hr⟩ := ih h
    split at hr
    ·exact ⟨[S.find a] ++ r, by rw [hr, List.append_assoc]⟩
    ·exact ⟨r, hr⟩
theorem argsD_cell (x : UNode) : AV.isCell (.d x.argsD) = true ∧ AV.cells (.d x.argsD) = [.d x.argsD] := by
 unfold UNode.argsD
 split <;> exact ⟨rfl, rfl⟩
/-- What those who ask for the variables keep: J of how many were told. -/
structure Asks (S : Store) (s : Nat) (p : At) (y bx bs base : Nat) (v : AV) (az ys : List Nat) (J : Nat → Hp → Prop) : Prop where
 hS : ∀ i h, J i h → StoreAt h s S p
 gs : ∀ i h, J i h → h.get bs = some (.cells [.ptr s 0 0] 0)
 gx : ∀ i h, J i h → h.get bx = some (.cells [v] 0)
 row : ∀ i h, J i h → RowN h.get v az
 stable : ∀ (i : Nat) (h h' : Hp), J i h → h.next ≤ h'.next → (∀ id, id < base → h'.get id = h.get id) → J i h'
 yld : ∀ (i : Nat) (h : Hp) (n : Nat), ys[i]? = some n → J i h → base ≤ h.next → Yld ctx Or Xo y [vint n] h (fun b h' => b = true ∧ J (i + 1) h' ∧ h.next ≤ h'.next ∧ ∀ id, base ≤ id → id < h.next → h'.get id = h.get id)
structure VI (S : Store) (J : Nat → Hp → Prop) (base mp wb : Nat) (m : List (Nat × Nat)) (w : List Nat) (vw : AV) (out : List Nat) (room : Nat) (h : Hp) : Prop where
 hJ : J out.length h
 hm : h.get mp = some (.map (ents (fun z : Nat => vint z) m))
 hb : h.get wb = some (.cells [vw] 0)
 sk : NStk h vw w
 nm : mp ∉ vw.own
 nb : wb ∉ vw.own
 mb : mp ≠ wb
 b1 : base ≤ mp
 b2 : base ≤ wb
 b3 : ∀ id ∈ vw.own, base ≤ id
 l1 : mp < h.next
 l2 : wb < h.next
 ok : ∀ n ∈ w, n < S.nodes.length
 val : ∀ n, getN m n = none ∨ getN m n = some 1
 sz : w.length + fresh S m * 4096 + room ≤ 2 ^ 25
theorem room_mark {l u r B : Nat} (h : l + (u + 1) * 4096 + r ≤ B) : l + u * 4096 + (r + 4096) ≤ B := by
 rw [Nat.succ_mul] at h
 generalize u * 4096 = x at h ⊢
 generalize (4096 : Nat) = c at h ⊢
 omega
section
variable {S : Store} {s : Nat} {p : At} {y bx bs base mp wb room : Nat} {v vw v' : AV} {az ys out w : List Nat} {J : Nat → Hp → Prop} {k : Nat} {m m' : List (Nat × Nat)} {h h' : Hp} {a n : Nat}
/-- Other memory has turned. -/
theorem VI.same (A : Asks S s p y bx bs base v az ys J) (I : VI S J base mp wb m w vw out room h) (hn : h.next ≤ h'.next) (hk : ∀ id, id < base ∨ id = mp ∨ id = wb ∨ id ∈ vw.own → h'.get id = h.get id) : VI S J base mp wb m w vw out room h' :=
 { I with
  hJ := A.stable _ _ _ I.hJ hn fun id h1 => hk id (.inl h1)
  hm := (hk mp (.inr (.inl rfl))).trans I.hm
  hb := (hk wb (.inr (.inr (.inl rfl)))).trans I.hb
  sk := I.sk.keep hn fun id h1 => hk id (.inr (.inr (.inr h1)))
  l1 := Nat.lt_of_lt_of_le I.l1 hn
  l2 := Nat.lt_of_lt_of_le I.l2 hn }
theorem VI.lt (I : VI S J base mp wb m w vw out room h) : base < h.next := Nat.lt_of_le_of_lt I.b1 I.l1
theorem VI.olt (I : VI S J base mp wb m w vw out room h) : ∀ id ∈ vw.own, id < h.next := StkAt.lt I.sk
theorem VI.pop (A : Asks S s p y bx bs base v az ys J) (I : VI S J base mp wb m (a :: w) vw out room h) (ho : v'.own = vw.own) (sk : NStk h v' w) : VI S J base mp wb m w v' out (room + 1) (h.set wb (.cells [v'] 0)) where
 hJ := A.stable _ _ _ I.hJ (Nat.le_refl _) fun id h1 => Hp.get_set_ne fun h2 => by have := I.b2; omega
 hm := (Hp.get_set_ne I.mb).trans I.hm
 hb := Hp.get_set_eq
 sk := sk.keep (Nat.le_refl _) fun id h1 => Hp.get_set_ne fun h2 => I.nb (by rw [← ho, ← h2]; exact h1)
 nm := by rw [ho]; exact I.nm
 nb := by rw [ho]; exact I.nb
 mb := I.mb
 b1 := I.b1
 b2 := I.b2
 b3 := by rw [ho]; exact I.b3
 l1 := I.l1
 l2 := I.l2
 ok := fun n hn => I.ok n (by simp [hn])
 val := I.val
 sz := by have := I.sz; simp only [List.length_cons] at this; omega
/-- A node was seen. -/
theorem VI.mark (A : Asks S s p y bx bs base v az ys J) (I : VI S J base mp wb m w vw out room h) (hn : n < S.nodes.length) (hg : getN m n = none) : VI S J base mp wb (putN m n 1) w vw out (room + 4096) (h.set mp (.map (ents (fun z : Nat => vint z) (putN m n 1)))) :=
 { I with
  hJ := A.stable _ _ _ I.hJ (Nat.le_refl _) fun id h1 => Hp.get_set_ne fun h2 => by have := I.b1; omega
  hm := Hp.get_set_eq
  hb := (Hp.get_set_ne fun h1 => I.mb h1.symm).trans I.hb
  sk := I.sk.keep (Nat.le_refl _) fun id h1 => Hp.get_set_ne fun h2 => I.nm (by rw [← h2]; exact h1)
  val := fun i => by
   rw [getN_putN]; split
   ·exact .inr rfl
   ·exact I.val i
  sz := by
   have h1 := I.sz
   rw [fresh_put (x := 1) hn hg] at h1
   exact room_mark h1 }
theorem VI.less {room' : Nat} (I : VI S J base mp wb m w vw out room h) (hr : room' ≤ room) : VI S J base mp wb m w vw out room' h := { I with sz := by have := I.sz; omega }
/-- A variable was told. -/
theorem VI.told (I : VI S J base mp wb m w vw out room h) (hJ : J (out.length + 1) h') (hn : h.next ≤ h'.next) (hk : ∀ id, base ≤ id → id < h.next → h'.get id = h.get id) : VI S J base mp wb m w vw (out ++ [n]) room h' :=
 { I with
  hJ := by simpa using hJ
  hm := (hk mp I.b1 I.l1).trans I.hm
  hb := (hk wb I.b2 I.l2).trans I.hb
  sk := I.sk.keep hn fun id h1 => hk id (I.b3 id h1) (I.olt id h1)
  l1 := Nat.lt_of_lt_of_le I.l1 hn
  l2 := Nat.lt_of_lt_of_le I.l2 hn }
theorem VI.push (A : Asks S s p y bx bs base v az ys J) (I : VI S J base mp wb m w vw out (room + 1) h) (ha : a < S.nodes.length) (P : Pushed h vw 1 (w.length + 1) (nats w.reverse ++ nats [a]) h' v') : VI S J base mp wb m (a :: w) v' out room (h'.set wb (.cells [v'] 0)) where
 hJ := by
  refine A.stable _ _ _ I.hJ (Nat.le_of_eq P.next) fun id h1 => ?_
  rw [Hp.get_set_ne (fun h2 => by have := I.b2; omega), P.keep id (fun h2 => by have := I.b3 id h2; omega)]
 hm := by rw [Hp.get_set_ne I.mb, P.keep mp I.nm]; exact I.hm
 hb := Hp.get_set_eq
 sk := by
  have := NStk.pushed (l := [a]) P
  exact this.keep (Nat.le_refl _) fun id h1 => Hp.get_set_ne fun h2 => I.nb (by rw [← P.own, ← h2]; exact h1)
 nm := by rw [P.own]; exact I.nm
 nb := by rw [P.own]; exact I.nb
 mb := I.mb
 b1 := I.b1
 b2 := I.b2
 b3 := by rw [P.own]; exact I.b3
 l1 := by rw [Hp.next_set, ← P.next]; exact I.l1
 l2 := by rw [Hp.next_set, ← P.next]; exact I.l2
 ok := fun x hx => by
  rcases List.mem_cons.1 hx with h1 | h1
  ·subst h1; exact ha
  ·exact I.ok x h1
 val := I.val
 sz := by have := I.sz; simp only [List.length_cons]; omega
/-- Between two of the arguments that are put on the stack. -/
structure PB (S : Store) (J : Nat → Hp → Prop) (base mp wb : Nat) (m : List (Nat × Nat)) (args w : List Nat) (out : List Nat) (b2 y2 : Nat) (av : AV) (rec : LoopR) (j : Nat) (h : Hp) : Prop where
 vi : ∃ vw, VI S J base mp wb m (args.drop j ++ w) vw out j h ∧ b2 ∉ vw.own ∧ y2 ∉ vw.own
 gb : h.get b2 = some (.cells [av] 0)
 gy : h.get y2 = some (.loop rec)
 bm : b2 ≠ mp
 bw : b2 ≠ wb
 ym : y2 ≠ mp
 yw : y2 ≠ wb
 yb : y2 ≠ b2
 bb : base ≤ b2
 by_ : base ≤ y2
theorem PB.round {args : List Nat} {b2 y2 : Nat} {av : AV} {rec : LoopR} {i : Nat} {ob : Obj} {h2 : Hp} (A : Asks S s p y bx bs base v az ys J) (hi : i < args.length) (ha : ∀ x ∈ args, x < S.nodes.length)
  (B : PB S J base mp wb m args w out b2 y2 av rec (i + 1) h) (I : VI S J base mp wb m (args.drop (i + 1) ++ w) vw out (i + 1) h) (n1 : b2 ∉ vw.own) (n2 : y2 ∉ vw.own)
  (P : Pushed (h.set y2 ob) vw 1 ((args.drop (i + 1) ++ w).length + 1) (nats (args.drop (i + 1) ++ w).reverse ++ nats [args.getD i 0]) h2 v') :
  PB S J base mp wb m args w out b2 y2 av rec i ((h2.set wb (.cells [v'] 0)).set y2 (.loop rec)) := by
 have I1 : VI S J base mp wb m (args.drop (i + 1) ++ w) vw out (i + 1) (h.set y2 ob) := I.same A (Nat.le_refl _) fun id h1 => Hp.get_set_ne fun h3 => by
  rcases h1 with h4 | h4 | h4 | h4
  ·have := B.by_; omega
  ·exact B.ym (by rw [← h3, h4])
  ·exact B.yw (by rw [← h3, h4])
  ·exact n2 (by rw [← h3]; exact h4)
 have hmem : args.getD i 0 ∈ args := by rw [List.getD_eq_getElem?_getD, List.getElem?_eq_getElem hi]; simp
 have I2 := I1.push A (ha _ hmem) P
 have he : args.getD i 0 :: (args.drop (i + 1) ++ w) = args.drop i ++ w := by
  rw [List.getD_eq_getElem?_getD, List.getElem?_eq_getElem hi, Option.getD_some, ← List.cons_append, List.getElem_cons_drop]
 rw [he] at I2
 have o1 := P.own
 refine { B with vi := ⟨v', I2.same A (Nat.le_refl _) fun id h1 => Hp.get_set_ne fun h3 => ?_, by rw [o1]; exact n1, by rw [o1]; exact n2⟩, gb := ?_, gy := Hp.get_set_eq }
 ·rcases h1 with h4 | h4 | h4 | h4
  ·have := B.by_; omega
  ·exact B.ym (by rw [← h3, h4])
  ·exact B.yw (by rw [← h3, h4])
  ·exact n2 (by rw [← h3, ← o1]; exact h4)
 ·rw [Hp.get_set_ne (fun h1 => B.yb h1.symm), Hp.get_set_ne B.bw, P.keep _ n1, Hp.get_set_ne (fun h1 => B.yb h1.symm)]
  exact B.gb
end
structure VIx where
 k : Nat
 m : List (Nat × Nat)
 w : List Nat
 vw : AV
 out : List Nat
 h : Hp
structure VOx where
 i : Nat
 k : Nat
 m : List (Nat × Nat)
 out : List Nat
 h : Hp
/-- Between two of the nodes that are asked of. -/
structure VO (S : Store) (J : Nat → Hp → Prop) (base mp : Nat) (az ys : List Nat) (m' : List (Nat × Nat)) (i k : Nat) (m : List (Nat × Nat)) (out : List Nat) (h : Hp) : Prop where
 hJ : J out.length h
 hm : h.get mp = some (.map (ents (fun z : Nat => vint z) m))
 b1 : base ≤ mp
 l1 : mp < h.next
 hi : i ≤ az.length
 hr : S.dfs k m (az.drop i) out = some (m', ys)
 val : ∀ n, getN m n = none ∨ getN m n = some 1
theorem fresh_le (S : Store) (m : List (Nat × Nat)) : fresh S m ≤ S.nodes.length := by
 unfold fresh
 have := List.countP_le_length (p := fun n => (getN m n).isNone) (l := List.range S.nodes.length)
 simpa using this
theorem vars127_run {S : Store} {s : Nat} {p : At} (hw : Wf S) {y bx bs base : Nat} {v : AV} {az ys : List Nat} {J : Nat → Hp → Prop} (A : Asks S s p y bx bs base v az ys J) (haz : ∀ n ∈ az, n < S.nodes.length) (hlen : az.length ≤ 2 ^ 20)
  {k : Nat} {m' : List (Nat × Nat)} (hdfs : S.dfs k [] az [] = some (m', ys)) {h : Hp} (h0 : J 0 h) (hbase : base = h.next) : Ret ctx Or Xo 127 [.yld y, .ptr bx 0 0, .ptr bs 0 0] h (fun _ h' => J ys.length h' ∧ h.next ≤ h'.next) := by
 refine body (env := [(0, .yld y), (1, .ptr bx 0 0), (2, .ptr bs 0 0)]) (rs := []) Tryz.func127 rfl rfl Tryz.ntmps127 rfl rfl ?_
 refine s_seq <| s_region ?_
 refine s_newMap rfl rfl rfl rfl ?_
 refine s_val rfl rfl rfl rfl <| s_nil ?_
 have j1 : J 0 (h.alloc (.map [])) := A.stable _ _ _ h0 (Nat.le_succ _) fun id h1 => by rw [Hp.get_alloc, if_neg (by omega)]
 have hv := A.row _ _ j1
 have hvL : v.isL = false := hv.isL
 refine s_seq <| s_region ?_
 refine s_val rfl (o_load rfl rfl rfl (A.gx _ _ j1) rfl rfl) rfl rfl ?_
 refine s_val rfl (o_lenV rfl rfl (args1 rfl hv.isL) rfl (hv.lenKind rfl) hv.len) rfl rfl ?_
 refine s_val rfl rfl rfl rfl <| s_nil <| s_block ?_
 have O0 : VO S J base h.next az ys m' 0 k [] [] (h.alloc (.map [])) := ⟨j1, if_pos rfl, Nat.le_of_eq hbase, Nat.lt_succ_self _, Nat.zero_le _, hdfs, fun _ => .inl rfl⟩
 refine s_rounds (ι := VOx) (fun i => ⟨[(0, .yld y), (1, .ptr bx 0 0), (2, .ptr bs 0 0), (4, .map h.next), (13, v), (14, vint az.length), (15, vint i.i)], [], i.h⟩) (fun i => VO S J base h.next az ys m' i.i i.k i.m i.out i.h) (fun i => az.length - i.i) ?_ ⟨0, k, [], [], _⟩ O0 ⟨⟨rfl, rfl, rfl, rfl, rfl, rfl, rfl, trivial⟩, trivial, rfl⟩
 rintro ⟨i, k, m, out, h1⟩ O
 simp only at O
 refine s_seq <| s_region <| s_val rfl rfl rfl rfl <| s_nil <| s_seq ?_
 by_cases hil : i < az.length
 ·have hlt : decide ((i : Int) < (az.length : Nat)) = true := decide_eq_true (Int.ofNat_lt.2 hil)
  refine s_cond_t (congrArg (fun t => some (vbool t)) hlt) ?_
  obtain ⟨q, hq1, hq2⟩ := (A.row _ _ O.hJ).read (C := ctx) (L := lk []) hil (t := 72) (e := 3) rfl rfl rfl rfl
  have hai : az.getD i 0 < S.nodes.length := haz _ (by rw [List.getD_eq_getElem?_getD, List.getElem?_eq_getElem hil]; simp)
  refine s_skip <| s_seq <| s_block <| s_seq <| s_region ?_
  refine s_val rfl (o_indexV rfl rfl rfl hq1) rfl rfl ?_
  refine s_val rfl (o_loadV rfl rfl hq2) rfl rfl ?_
  refine s_val rfl rfl rfl rfl <| s_nil <| s_seq <| s_region <| s_val rfl rfl rfl rfl ?_
  refine s_newCells rfl rfl rfl rfl ?_
  refine s_newVar rfl rfl rfl rfl ?_
  refine s_setH rfl (o_store1 rfl rfl rfl rfl rfl rfl rfl rfl (if_pos rfl) (Nat.le_of_ble_eq_true rfl)) rfl ?_
  refine s_nil <| s_block ?_
  have C0 : VI S J base h.next (h1.next + 1) m [az.getD i 0] (.msl h1.next 0 1 0 1) out 0 ((((h1.newC (nats [az.getD i 0]) 3).newV [.d .nilslice] 72)).set (h1.next + 1) (.cells [.msl h1.next 0 1 0 1] 0)) := by
   have hl := O.l1
   have hb := O.b1
   refine ⟨A.stable _ _ _ O.hJ (Nat.le_trans (Nat.le_succ _) (Nat.le_succ _)) fun id h2 => ?_, ?_, Hp.get_set_eq, .of ?_ rfl ?_, ?_, ?_, by omega, O.b1, by omega, fun id h2 => ?_, ?_, ?_, fun n h2 => ?_, O.val, ?_⟩
   ·rw [Hp.get_set_ne (by omega), Hp.get_newV, if_neg (by rw [Hp.next_newC]; omega), Hp.get_newC, if_neg (by omega)]
   ·rw [Hp.get_set_ne (by omega), Hp.get_newV, if_neg (by rw [Hp.next_newC]; omega), Hp.get_newC, if_neg (by omega)]; exact O.hm
   ·rw [Hp.get_set_ne (by omega), Hp.get_newV, if_neg (by rw [Hp.next_newC]; omega), Hp.get_newC, if_pos rfl]
    rfl
   ·rw [Hp.next_set, Hp.next_newV, Hp.next_newC]; omega
   ·simp [AV.own]; omega
   ·simp [AV.own]
   ·simp [AV.own] at h2; omega
   ·rw [Hp.next_set, Hp.next_newV, Hp.next_newC]; omega
   ·rw [Hp.next_set, Hp.next_newV, Hp.next_newC]; omega
   ·simp at h2; rw [h2]; simpa using hai
   ·have h2 := fresh_le S m
    have h3 := hw.size
    simp only [List.length_cons, List.length_nil]
    omega
  have hdf0 : S.dfs k m ([az.getD i 0] ++ az.drop (i + 1)) out = some (m', ys) := by
   have h3 : [az.getD i 0] ++ az.drop (i + 1) = az.drop i := by
    rw [List.drop_eq_getElem_cons hil]; simp [hil]
   rw [h3]; exact O.hr
  refine s_rounds (ι := VIx) (fun j => ⟨[(0, .yld y), (1, .ptr bx 0 0), (2, .ptr bs 0 0), (4, .map h.next), (7, .ptr (h1.next + 1) 0 0), (13, v), (14, vint az.length), (15, vint i)], [], j.h⟩) (fun j => VI S J base h.next (h1.next + 1) j.m j.w j.vw j.out 0 j.h ∧ S.dfs j.k j.m (j.w ++ az.drop (i + 1)) j.out = some (m', ys)) (fun j => j.k) ?_ ⟨k, m, [az.getD i 0], .msl h1.next 0 1 0 1, out, _⟩ ⟨C0, hdf0⟩ ⟨⟨rfl, rfl, rfl, rfl, rfl, rfl, rfl, rfl, trivial⟩, trivial, rfl⟩
  clear C0 hdf0
  generalize hwbe : h1.next + 1 = wb
  clear O hwbe
  rintro ⟨k, m, w, vw, out, h2⟩ ⟨I, hdf⟩
  simp only at I hdf
  cases k with
  | zero => cases hdf
  | succ k =>
  have hS2 := A.hS _ _ I.hJ
  refine s_seq <| s_seq <| s_region ?_
  refine s_val rfl (o_load rfl rfl rfl I.hb rfl rfl) rfl rfl ?_
  refine s_val rfl (o_lenV rfl rfl (args1 rfl I.sk.isL) rfl (I.sk.lenKind rfl) I.sk.lenA_eq) rfl rfl ?_
  refine s_val rfl rfl rfl rfl <| s_nil ?_
  cases w with
  | nil =>
   refine s_cond_f rfl ?_
   refine s_exit ?_
   refine s_region ?_
   refine s_val rfl (o_eq rfl (wrap_succ (n := i) (by omega))) rfl rfl ?_
   refine s_val rfl rfl rfl rfl <| s_nil ?_
   exact ⟨⟨i + 1, k + 1, m, out, h2⟩, ⟨I.hJ, I.hm, I.b1, I.l1, hil, hdf, I.val⟩, by simp only; omega, ⟨rfl, rfl, rfl, rfl, rfl, rfl, rfl, trivial⟩, trivial, rfl⟩
  | cons a w =>
   obtain ⟨q1, hq3, hq4⟩ := I.sk.top
   obtain ⟨v1, hv1, sk1, own1⟩ := I.sk.pop
   have ha : a < S.nodes.length := I.ok a (by simp)
   have hsz := I.sz
   simp only [List.length_cons] at hsz
   have hgt : decide ((((a :: w).length : Nat) : Int) > 0) = true := decide_eq_true (by simp)
   have hsub : vint (IntKind.i64.wrap ((((a :: w).length : Nat) : Int) - 1)) = vint (w.length : Nat) := subOne (by omega)
   refine s_cond_t (congrArg (fun t => some (vbool t)) hgt) ?_
   refine s_skip <| s_block <| s_seq ?_
   refine s_drawn { ord := [0, 1, 2, 3, 4, 5, 6, 7, 8], wr := 128, cl := [0, 0, 0, 4, 12, 30, 62, 127, 255] } (by kernel_rfl) ?_
   refine d_val rfl rfl (o_load rfl rfl rfl (A.gs _ _ I.hJ) rfl rfl) rfl rfl ?_
   refine d_val rfl rfl (o_load rfl rfl rfl I.hb rfl rfl) rfl rfl ?_
   refine d_val rfl rfl (o_load rfl rfl rfl I.hb rfl rfl) rfl rfl ?_
   refine d_val rfl rfl (o_lenV rfl rfl (args1 rfl I.sk.isL) rfl (I.sk.lenKind rfl) I.sk.lenA_eq) rfl rfl ?_
   refine d_val rfl rfl (o_eq rfl (hsub)) rfl rfl ?_
   refine d_val rfl rfl (o_indexV rfl rfl rfl hq3) rfl rfl ?_
   refine d_val rfl rfl (o_loadV rfl rfl (hq4 _)) rfl rfl ?_
   refine d_ret1 (find_ret hS2 hw a ha) rfl rfl rfl rfl rfl ?_
   rintro _ h2 ⟨rfl, he⟩
   subst he
   refine d_val rfl rfl rfl rfl rfl ?_
   refine d_nil ⟨trivial, trivial, ?_⟩
   refine s_seq <| s_region ?_
   refine s_val rfl (o_load rfl rfl rfl I.hb rfl rfl) rfl rfl ?_
   refine s_val rfl (o_load rfl rfl rfl I.hb rfl rfl) rfl rfl ?_
   refine s_val rfl (o_lenV rfl rfl (args1 rfl I.sk.isL) rfl (I.sk.lenKind rfl) I.sk.lenA_eq) rfl rfl ?_
   refine s_val rfl (o_eq rfl (hsub)) rfl rfl ?_
   refine s_val rfl (o_sliceV rfl rfl rfl hv1) rfl rfl ?_
   refine s_setH rfl (o_store1 rfl rfl rfl rfl rfl sk1.cell.2.2 sk1.cell.2.1 sk1.cell.1 I.hb (Nat.le_of_ble_eq_true rfl)) rfl ?_
   refine s_nil ?_
   have I1 := I.pop A own1 sk1
   simp only [List.cons_append, Store.dfs] at hdf
   have hx := find_lt hw ha
   generalize hne : S.find a = n at hdf hx
   have hlk : (((getN m n).map fun z : Nat => vint z).getD (vint (0 : Nat))) = vint ((getN m n).getD 0 : Nat) := by cases getN m n <;> rfl
   refine s_seq <| s_seq <| s_region <| s_val rfl rfl rfl rfl <| s_val rfl rfl rfl rfl ?_
   refine s_val rfl (o_eq (o_lookup (z := vint (0 : Nat)) rfl rfl rfl rfl rfl rfl I1.hm rfl) hlk) rfl rfl ?_
   refine s_val rfl rfl rfl rfl <| s_nil ?_
   refine s_if rfl (fun ht => ?_) (fun ht => ?_)
   ·skip
    have hseen : getN m n ≠ none := fun h3 => by
     have h4 := of_decide_eq_true ht
     rw [h3] at h4; exact absurd h4 (by decide)
    rw [if_pos hseen] at hdf
    refine s_exit ?_
    exact ⟨⟨k, m, w, v1, out, _⟩, ⟨I1.less (Nat.zero_le _), hdf⟩, Nat.lt_succ_self k, ⟨rfl, rfl, rfl, rfl, rfl, rfl, rfl, rfl, trivial⟩, trivial, rfl⟩
   ·skip
    have hseen : getN m n = none := by
     rcases I.val n with h3 | h3
     ·exact h3
     ·have h4 := of_decide_eq_false ht
      rw [h3] at h4; exact absurd (by decide) h4
    rw [if_neg (fun h3 => h3 hseen)] at hdf
    refine s_skip <| s_seq <| s_region <| s_val rfl rfl rfl rfl <| s_val rfl rfl rfl rfl ?_
    refine s_setH rfl (o_mapUp (f := fun z : Nat => vint z) (v := 1) rfl rfl rfl rfl rfl rfl rfl I1.hm rfl) rfl ?_
    refine s_nil ?_
    have I2 := I1.mark A hx hseen
    refine s_seq ?_
    refine s_less (σ' := ⟨[(0, .yld y), (1, .ptr bx 0 0), (2, .ptr bs 0 0), (4, .map h.next), (7, .ptr wb 0 0), (8, vint n), (13, v), (14, vint az.length), (15, vint i)], [], (h2.set wb (.cells [v1] 0)).set h.next (.map (ents (fun z : Nat => vint z) (putN m n 1)))⟩) ⟨⟨rfl, rfl, rfl, rfl, rfl, rfl, rfl, rfl, rfl, trivial⟩, trivial, rfl⟩ ?_
    generalize (h2.set wb (.cells [v1] 0)).set h.next (.map (ents (fun z : Nat => vint z) (putN m n 1))) = h3 at I2 ⊢
    refine s_region ?_
    refine s_val rfl (o_load rfl rfl rfl (A.gs _ _ I2.hJ) rfl rfl) rfl rfl ?_
    refine s_val rfl rfl rfl rfl ?_
    refine s_ret1 (form_ret (A.hS _ _ I2.hJ) hw n hx) rfl rfl rfl rfl ?_
    rintro _ h3 ⟨rfl, he3⟩
    subst he3
    refine s_newL rfl rfl rfl rfl (by repeat first | rfl | refine noL_cons (by first | rfl | exact hvL) ?_) ?_
    refine s_setL rfl (o_storeL rfl rfl rfl rfl rfl rfl (node_cells _) rfl (Nat.le_refl 3)) rfl ?_
    refine s_nil ?_
    have hal := hw.form_len hx
    have hargs := hw.form_args hx
    have hra : ∀ H, RowN H (.d (S.form n).argsD) (S.form n).args := fun H => argsRow (hw.form_nil hx)
    by_cases hk1 : (S.form n).kind = 1
    ·rw [if_pos hk1] at hdf
     refine s_seq <| s_seq <| s_region <| s_val rfl rfl rfl rfl <| s_val rfl rfl rfl rfl ?_
     refine s_val rfl (o_eq rfl (congrArg vbool (show (((S.form n).kind : Int) == 1) = true by rw [hk1]; rfl))) rfl rfl ?_
     iterate 3 refine s_val rfl rfl rfl rfl ?_
     have hyn : ys[out.length]? = some n := by
      obtain ⟨r, hr⟩ := dfs_pre hdf
      rw [hr]; simp
     refine s_yield (A.yld out.length _ n hyn I2.hJ (Nat.le_of_lt I2.lt)) rfl (c_yld rfl rfl rfl (args1 rfl rfl)) rfl rfl ?_
     rintro _ h4 ⟨rfl, hJ4, hn4, hk4⟩
     have I3 : VI S J base h.next wb (putN m n 1) w v1 (out ++ [n]) (0 + 1 + 4096) h4 := I2.told hJ4 hn4 hk4
     refine s_val rfl rfl rfl rfl <| s_val rfl rfl rfl rfl <| s_nil <| s_cond_f rfl <| s_skip <| s_seq <| s_region <| s_val rfl rfl rfl rfl <| s_val rfl rfl rfl rfl ?_
     refine s_ret1 (back128_ret (argsD_cell _).1 (argsD_isL _) (argsD_cell _).2) rfl rfl rfl rfl ?_
     rintro _ h5 ⟨rfl, he5⟩
     refine s_nil ?_
     have I4 := I3
     generalize hot : out ++ [n] = out4 at hdf I4
     clear I3
     refine s_block ?_
     have hl5 : h5.next = h4.next + 1 := by rw [he5]; rfl
     refine s_rangeR (ke := [(7, .ptr wb 0 0)]) (R := fun rec _ hh => PB S J base h.next wb (putN m n 1) (S.form n).args w out4 h4.next (h4.next + 1) (.d (S.form n).argsD) rec 0 hh) rfl rfl rfl ⟨rfl, trivial⟩ rfl ?_ ?_
     ·intro rec hrec
      rw [hl5]
      refine back128_run (len := (S.form n).args.length) (v := .d (S.form n).argsD) (x := fun i => vint ((S.form n).args.getD i 0 : Nat)) (I := fun j hh => PB S J base h.next wb (putN m n 1) (S.form n).args w out4 h4.next (h4.next + 1) (.d (S.form n).argsD) rec j hh) (by omega) (argsD_isL _) (fun _ => rfl) ?_ ?_ ?_
      ·rintro j hh B
       refine ⟨B.gb, (hra _).len, (hra hh.get).lenKind rfl, fun i hi => ?_⟩
       obtain ⟨q, h6, _⟩ := (hra hh.get).read (C := ctx) (L := lk []) hi (t := 72) (e := 3) rfl rfl rfl rfl
       refine ⟨q, h6, fun L => ?_⟩
       obtain ⟨q', h7, h8⟩ := (hra hh.get).read (C := ctx) (L := L) hi (t := 72) (e := 3) rfl rfl rfl rfl
       rw [h6] at h7; cases h7; exact h8
      ·rintro i hh hi B
       subst hrec
       refine yld_of B.gy rfl ?_
       obtain ⟨vw5, I5, n5, n6⟩ := B.vi
       have hsz5 := I5.sz
       refine s_region <| s_val rfl rfl rfl rfl <| s_nil ?_
       refine ⟨rfl, _, B.gy, rfl, ?_⟩
       refine s_block ?_
       have g14 : ∀ ob, (hh.set (h4.next + 1) ob).get wb = some (.cells [vw5] 0) := fun ob => (Hp.get_set_ne fun h8 => B.yw h8.symm).trans I5.hb
       have sk14 : ∀ ob, NStk (hh.set (h4.next + 1) ob) vw5 ((S.form n).args.drop (i + 1) ++ w) := fun ob => I5.sk.keep (Nat.le_refl _) fun id h8 => Hp.get_set_ne fun h9 => n6 (by rw [← h9]; exact h8)
       refine s_region ?_
       refine s_val rfl (o_load rfl rfl rfl (g14 _) rfl rfl) rfl rfl ?_
       refine s_val rfl rfl rfl rfl <| s_val rfl rfl rfl rfl ?_
       refine s_push (sk14 _) rfl rfl rfl (args2 rfl I5.sk.isL rfl rfl) rfl rfl rfl rfl rfl rfl (by decide) rfl (new := nats [(S.form n).args.getD i 0]) rfl rfl (by decide) rfl (by omega) rfl rfl ?_
       intro h8 v8 P8
       refine s_setH rfl (o_store1 rfl rfl rfl rfl rfl P8.stk.cell.2.2 P8.stk.cell.2.1 P8.stk.cell.1 ((P8.keep wb I5.nb).trans (g14 _)) (Nat.le_of_ble_eq_true rfl)) rfl ?_
       refine s_nil ?_
       have B2 := B.round A hi hargs I5 n5 n6 P8
       refine ⟨_, (Hp.get_set_ne B.yw).trans ((P8.keep _ n6).trans Hp.get_set_eq), rfl, ?_⟩
       exact B2
      ·have g3 : ∀ id, id < h4.next → (h5.alloc (.loop rec)).get id = h4.get id := fun id h6 => by
        rw [Hp.get_alloc, if_neg (by omega), he5, Hp.get_newV, if_neg (by omega)]
       have l1 := I4.l1
       have l2 := I4.l2
       have hlt4 := I4.lt
       refine ⟨⟨v1, ?_, fun h6 => ?_, fun h6 => ?_⟩, ?_, ?_, by omega, by omega, by omega, by omega, by omega, by omega, by omega⟩
       ·rw [List.drop_length, List.nil_append]
        refine (I4.less (room' := (S.form n).args.length) (by omega)).same A (by rw [Hp.next_alloc]; omega) fun id h6 => g3 id ?_
        rcases h6 with h7 | h7 | h7 | h7
        ·omega
        ·omega
        ·omega
        ·exact I4.olt id h7
       ·have := I4.olt _ h6; omega
       ·have := I4.olt _ h6; omega
       ·rw [Hp.get_alloc, if_neg (by omega), he5, Hp.get_newV, if_pos rfl]
       ·rw [Hp.get_alloc, if_pos hl5.symm]
     ·rintro rec _ h6 B hrec
      rw [hl5]
      refine ⟨rec, .normal, B.gy, by rw [hrec]; simp [loopOf], by rw [hrec]; rfl, ?_⟩
      obtain ⟨vw6, I6, n6, n7⟩ := B.vi
      have I7 : VI S J base h.next wb (putN m n 1) ((S.form n).args ++ w) vw6 out4 0 (h6.del (h4.next + 1)) := by
       refine I6.same A (Nat.le_refl _) fun id h7 => if_neg fun h8 => ?_
       rcases h7 with h9 | h9 | h9 | h9
       ·have := B.by_; omega
       ·exact B.ym (by rw [← h8, h9])
       ·exact B.yw (by rw [← h8, h9])
       ·exact n7 (by rw [← h8]; exact h9)
      exact ⟨⟨k, putN m n 1, (S.form n).args ++ w, vw6, out4, _⟩, ⟨I7, by rw [List.append_assoc]; exact hdf⟩, Nat.lt_succ_self k, ⟨rfl, rfl, rfl, rfl, rfl, rfl, rfl, rfl, trivial⟩, trivial, rfl⟩
    ·rw [if_neg hk1] at hdf
     refine s_seq <| s_seq <| s_region <| s_val rfl rfl rfl rfl <| s_val rfl rfl rfl rfl ?_
     refine s_val rfl (o_eq rfl (congrArg vbool (show (((S.form n).kind : Int) == 1) = false from beq_false_of_ne (by omega)))) rfl rfl ?_
     refine s_val rfl rfl rfl rfl ?_
     iterate 4 refine s_no rfl rfl rfl ?_
     refine s_val rfl rfl rfl rfl <| s_nil <| s_cond_f rfl <| s_skip <| s_seq <| s_region <| s_val rfl rfl rfl rfl <| s_val rfl rfl rfl rfl ?_
     refine s_ret1 (back128_ret (argsD_cell _).1 (argsD_isL _) (argsD_cell _).2) rfl rfl rfl rfl ?_
     rintro _ h5 ⟨rfl, he5⟩
     refine s_nil ?_
     have I4 := I2
     generalize hot : out = out4 at hdf I4
     generalize h4e : h3 = h4 at I4 he5
     refine s_block ?_
     have hl5 : h5.next = h4.next + 1 := by rw [he5]; rfl
     refine s_rangeR (ke := [(7, .ptr wb 0 0)]) (R := fun rec _ hh => PB S J base h.next wb (putN m n 1) (S.form n).args w out4 h4.next (h4.next + 1) (.d (S.form n).argsD) rec 0 hh) rfl rfl rfl ⟨rfl, trivial⟩ rfl ?_ ?_
     ·intro rec hrec
      rw [hl5]
      refine back128_run (len := (S.form n).args.length) (v := .d (S.form n).argsD) (x := fun i => vint ((S.form n).args.getD i 0 : Nat)) (I := fun j hh => PB S J base h.next wb (putN m n 1) (S.form n).args w out4 h4.next (h4.next + 1) (.d (S.form n).argsD) rec j hh) (by omega) (argsD_isL _) (fun _ => rfl) ?_ ?_ ?_
      ·rintro j hh B
       refine ⟨B.gb, (hra _).len, (hra hh.get).lenKind rfl, fun i hi => ?_⟩
       obtain ⟨q, h6, _⟩ := (hra hh.get).read (C := ctx) (L := lk []) hi (t := 72) (e := 3) rfl rfl rfl rfl
       refine ⟨q, h6, fun L => ?_⟩
       obtain ⟨q', h7, h8⟩ := (hra hh.get).read (C := ctx) (L := L) hi (t := 72) (e := 3) rfl rfl rfl rfl
       rw [h6] at h7; cases h7; exact h8
      ·rintro i hh hi B
       subst hrec
       refine yld_of B.gy rfl ?_
       obtain ⟨vw5, I5, n5, n6⟩ := B.vi
       have hsz5 := I5.sz
       refine s_region <| s_val rfl rfl rfl rfl <| s_nil ?_
       refine ⟨rfl, _, B.gy, rfl, ?_⟩
       refine s_block ?_
       have g14 : ∀ ob, (hh.set (h4.next + 1) ob).get wb = some (.cells [vw5] 0) := fun ob => (Hp.get_set_ne fun h8 => B.yw h8.symm).trans I5.hb
       have sk14 : ∀ ob, NStk (hh.set (h4.next + 1) ob) vw5 ((S.form n).args.drop (i + 1) ++ w) := fun ob => I5.sk.keep (Nat.le_refl _) fun id h8 => Hp.get_set_ne fun h9 => n6 (by rw [← h9]; exact h8)
       refine s_region ?_
       refine s_val rfl (o_load rfl rfl rfl (g14 _) rfl rfl) rfl rfl ?_
       refine s_val rfl rfl rfl rfl <| s_val rfl rfl rfl rfl ?_
       refine s_push (sk14 _) rfl rfl rfl (args2 rfl I5.sk.isL rfl rfl) rfl rfl rfl rfl rfl rfl (by decide) rfl (new := nats [(S.form n).args.getD i 0]) rfl rfl (by decide) rfl (by omega) rfl rfl ?_
       intro h8 v8 P8
       refine s_setH rfl (o_store1 rfl rfl rfl rfl rfl P8.stk.cell.2.2 P8.stk.cell.2.1 P8.stk.cell.1 ((P8.keep wb I5.nb).trans (g14 _)) (Nat.le_of_ble_eq_true rfl)) rfl ?_
       refine s_nil ?_
       have B2 := B.round A hi hargs I5 n5 n6 P8
       refine ⟨_, (Hp.get_set_ne B.yw).trans ((P8.keep _ n6).trans Hp.get_set_eq), rfl, ?_⟩
       exact B2
      ·have g3 : ∀ id, id < h4.next → (h5.alloc (.loop rec)).get id = h4.get id := fun id h6 => by
        rw [Hp.get_alloc, if_neg (by omega), he5, Hp.get_newV, if_neg (by omega)]
       have l1 := I4.l1
       have l2 := I4.l2
       have hlt4 := I4.lt
       refine ⟨⟨v1, ?_, fun h6 => ?_, fun h6 => ?_⟩, ?_, ?_, by omega, by omega, by omega, by omega, by omega, by omega, by omega⟩
       ·rw [List.drop_length, List.nil_append]
        refine (I4.less (room' := (S.form n).args.length) (by omega)).same A (by rw [Hp.next_alloc]; omega) fun id h6 => g3 id ?_
        rcases h6 with h7 | h7 | h7 | h7
        ·omega
        ·omega
        ·omega
        ·exact I4.olt id h7
       ·have := I4.olt _ h6; omega
       ·have := I4.olt _ h6; omega
       ·rw [Hp.get_alloc, if_neg (by omega), he5, Hp.get_newV, if_pos rfl]
       ·rw [Hp.get_alloc, if_pos hl5.symm]
     ·rintro rec _ h6 B hrec
      rw [hl5]
      refine ⟨rec, .normal, B.gy, by rw [hrec]; simp [loopOf], by rw [hrec]; rfl, ?_⟩
      obtain ⟨vw6, I6, n6, n7⟩ := B.vi
      have I7 : VI S J base h.next wb (putN m n 1) ((S.form n).args ++ w) vw6 out4 0 (h6.del (h4.next + 1)) := by
       refine I6.same A (Nat.le_refl _) fun id h7 => if_neg fun h8 => ?_
       rcases h7 with h9 | h9 | h9 | h9
       ·have := B.by_; omega
       ·exact B.ym (by rw [← h8, h9])
       ·exact B.yw (by rw [← h8, h9])
       ·exact n7 (by rw [← h8]; exact h9)
      exact ⟨⟨k, putN m n 1, (S.form n).args ++ w, vw6, out4, _⟩, ⟨I7, by rw [List.append_assoc]; exact hdf⟩, Nat.lt_succ_self k, ⟨rfl, rfl, rfl, rfl, rfl, rfl, rfl, rfl, trivial⟩, trivial, rfl⟩
 ·have hlt : decide ((i : Int) < (az.length : Nat)) = false := decide_eq_false (fun h => hil (Int.ofNat_lt.1 h))
  refine s_cond_f (congrArg (fun t => some (vbool t)) hlt) ?_
  refine s_exit ?_
  have hie : i = az.length := by have := O.hi; omega
  have hO := O.hr
  rw [hie, List.drop_length] at hO
  refine ⟨.inl rfl, _, rfl, ?_, ?_⟩
  ·cases k with
   | zero => cases hO
   | succ k =>
    simp only [Store.dfs, Option.some.injEq, Prod.mk.injEq] at hO
    rw [← hO.2]; exact O.hJ
  ·have := O.l1
   exact Nat.le_of_lt this
end Go.Dv.Us
/- Types in memory; told. -/
namespace Go.Dv.Us
open Go.Dv.K Go.Proofs
def rowD (b : Bool) (n : Nat) (ds : List DV) : DV := if b then .nilslice else .imm ds n
mutual
/-- A type's cells. -/
def Ty.cells : Ty → List DV
 | .mk k n s b az => [.int .i64 k, .int .i64 n, .str s, rowD (b && az.isEmpty) az.length (Ty.cellsL az)]
def Ty.cellsL : List Ty → List DV
 | [] => []
 | t :: r => Ty.cells t ++ Ty.cellsL r
end
def Ty.agg (t : Ty) : AV := .d (.agg t.cells)
theorem Ty.cells_length (t : Ty) : t.cells.length = 4 := by cases t; rfl
theorem Ty.cellsL_length : ∀ l : List Ty, (Ty.cellsL l).length = l.length * 4
 | [] => rfl
 | t :: l => by simp only [Ty.cellsL, List.length_append, Ty.cells_length, Ty.cellsL_length l, List.length_cons]; omega
theorem Ty.cellsL_append : ∀ l m : List Ty, Ty.cellsL (l ++ m) = Ty.cellsL l ++ Ty.cellsL m
 | [], m => rfl
 | t :: l, m => by simp only [List.cons_append, Ty.cellsL, Ty.cellsL_append l m, List.append_assoc]
theorem rowD_cases (b : Bool) (n : Nat) (ds : List DV) : rowD b n ds = .nilslice ∨ rowD b n ds = .imm ds n := by
 unfold rowD; split
 ·exact .inl rfl
 ·exact .inr rfl
theorem Ty.cells_isCell (t : Ty) : t.agg.cells.all AV.isCell = true := by
 cases t with
 | mk k n s b az =>
  show (AV.cells (.d (.agg [.int .i64 k, .int .i64 n, .str s, rowD (b && az.isEmpty) az.length (Ty.cellsL az)]))).all AV.isCell = true
  generalize hx : rowD (b && az.isEmpty) az.length (Ty.cellsL az) = x
  have := rowD_cases (b && az.isEmpty) az.length (Ty.cellsL az)
  rw [hx] at this
  rcases this with rfl | rfl <;> rfl
theorem all_map_cell {ds : List DV} (h : ∀ d ∈ ds, d.isAgg = false) : (ds.map AV.d).all AV.isCell = true := by
 rw [List.all_eq_true]
 intro x hx
 obtain ⟨d, hd, rfl⟩ := List.mem_map.1 hx
 have := h d hd
 cases d <;> first | rfl | cases this
/-- Rows of deep data are taken out of memory. -/
theorem frz_rows {h : Hp} {v : AV} {sz len : Nat} {ds : List DV} (r : RowAt h sz v len (ds.map .d)) : ∃ h', frzV 400 h v = some (rowD (isNilS v) len ds, h') ∧ h'.next = h.next ∧ ∀ id, id ∉ v.own → h'.get id = h.get id := by
 generalize hcs : ds.map AV.d = cs at r
 cases r with
 | nil => exact ⟨h, rfl, rfl, fun _ _ => rfl⟩
 | @row id _ ver _ hg hc hl =>
  subst hcs
  refine ⟨h.del id, ?_, rfl, fun i hi => if_neg (by simpa [AV.own] using hi)⟩
  show (match h.get id with
   | some (.cells cs v) => if v = ver then match takeExact (len * sz) 0 cs with
     | some r => match frzL (frzV 399) (h.del id) r with
      | some (ds, h') => some (DV.imm ds len, h')
      | none => none
     | none => none
    else none
   | _ => none) = _
  rw [hg]
  have ht : takeExact (len * sz) 0 (ds.map AV.d) = some (ds.map AV.d) := takeExact_all hc.symm
  simp only [if_true, ht]
  rw [frzL_map (fun h y => rfl)]
  rfl
/-- A list of types that grows. -/
structure TL (h : Hp) (v : AV) (ts : List Ty) : Prop where
 row : RowAt h 4 v ts.length ((Ty.cellsL ts).map .d)
 nil : isNilS v = ts.isEmpty
theorem TL.snoc {h h' : Hp} {v v' : AV} {ts : List Ty} {t : Ty} (r : TL h v ts) (L : Longer h v 4 (ts.length + 1) ((Ty.cellsL ts).map .d ++ t.cells.map .d) h' v') : TL h' v' (ts ++ [t]) := by
 have h1 := L.row
 refine ⟨?_, ?_⟩
 ·rw [Ty.cellsL_append, List.map_append, List.length_append]
  simpa [Ty.cellsL] using h1
 ·obtain ⟨id, ver, he⟩ := h1.ne (Nat.succ_pos _)
  rw [he]; simp [isNilS]
theorem TL.keep {h h' : Hp} {v : AV} {ts : List Ty} (r : TL h v ts) (hn : h.next ≤ h'.next) (hk : ∀ id ∈ v.own, h'.get id = h.get id) : TL h' v ts := ⟨r.row.keep hn hk, r.nil⟩
structure TLx where
 i : Nat
 v : AV
 h : Hp
def vnum (m : List (Nat × Nat)) (v : Nat) : Nat := (getN m v).getD 0
theorem told_ret {s : Nat} {S : Store} {p : At} (hw : Wf S) {mp : Nat} {m : List (Nat × Nat)} {n : Nat} {T : Ty} (d : Den S n T) : n < S.nodes.length → ∀ {h : Hp}, StoreAt h s S p → h.get mp = some (.map (ents (fun z : Nat => vint z) m)) → mp < h.next →
  Ret ctx Or Xo 74 [.ptr s 0 0, vint n, .map mp] h (fun v h' => v = (T.rename (vnum m)).agg ∧ Ext h h') := by
 induction d with
 | @var n hk =>
  intro hn h hS hm hml
  refine body (env := [(0, .ptr s 0 0), (1, vint n), (2, .map mp)]) (rs := [.cell 6 40]) Tryz.func74 rfl rfl Tryz.ntmps74 rfl rfl ?_
  refine s_seq <| s_region ?_
  refine s_newL rfl rfl rfl rfl rfl ?_
  refine s_nil <| s_seq <| s_region <| s_val rfl rfl rfl rfl <| s_val rfl rfl rfl rfl ?_
  refine s_ret1 (form_ret hS hw n hn) rfl rfl rfl rfl ?_
  rintro _ _ ⟨rfl, rfl⟩
  refine s_newL rfl rfl rfl rfl rfl ?_
  refine s_setL rfl (o_storeL rfl rfl rfl rfl rfl rfl (node_cells _) rfl (Nat.le_refl 3)) rfl ?_
  refine s_nil <| s_seq <| s_seq <| s_region <| s_val rfl rfl rfl rfl <| s_val rfl rfl rfl rfl ?_
  refine s_val rfl (o_eq rfl (congrArg vbool (show (((S.form n).kind : Int) == 1) = true by rw [hk]; rfl))) rfl rfl ?_
  refine s_nil <| s_cond_t rfl <| s_seq <| s_region ?_
  iterate 3 refine s_val rfl rfl rfl rfl ?_
  refine s_ret1 (find_ret hS hw n hn) rfl rfl rfl rfl ?_
  rintro _ _ ⟨rfl, rfl⟩
  have hlk : (((getN m (S.find n)).map fun z : Nat => vint z).getD (vint (0 : Nat))) = vint (vnum m (S.find n) : Nat) := by unfold vnum; cases getN m (S.find n) <;> rfl
  refine s_val rfl (o_eq (o_lookup (z := vint (0 : Nat)) rfl rfl rfl rfl rfl rfl hm rfl) hlk) rfl rfl ?_
  refine s_val rfl rfl rfl rfl ?_
  refine s_setL rfl (o_storeL rfl rfl rfl rfl rfl rfl rfl rfl (Nat.le_refl 4)) rfl ?_
  refine s_nil <| s_ret ?_
  exact ⟨.inr rfl, _, rfl, rfl, Ext.refl _⟩
 | @app n ts hk hl ha ih =>
  intro hn h hS hm hml
  have hra : ∀ H, RowN H (.d (S.form n).argsD) (S.form n).args := fun H => argsRow (hw.form_nil hn)
  have hal := hw.form_len hn
  have hlt := hS.toRows4.olt
  refine body (env := [(0, .ptr s 0 0), (1, vint n), (2, .map mp)]) (rs := [.cell 6 40]) Tryz.func74 rfl rfl Tryz.ntmps74 rfl rfl ?_
  refine s_seq <| s_region ?_
  refine s_newL rfl rfl rfl rfl rfl ?_
  refine s_nil <| s_seq <| s_region <| s_val rfl rfl rfl rfl <| s_val rfl rfl rfl rfl ?_
  refine s_ret1 (form_ret hS hw n hn) rfl rfl rfl rfl ?_
  rintro _ _ ⟨rfl, rfl⟩
  refine s_newL rfl rfl rfl rfl rfl ?_
  refine s_setL rfl (o_storeL rfl rfl rfl rfl rfl rfl (node_cells _) rfl (Nat.le_refl 3)) rfl ?_
  refine s_nil <| s_seq <| s_seq <| s_region <| s_val rfl rfl rfl rfl <| s_val rfl rfl rfl rfl ?_
  refine s_val rfl (o_eq rfl (congrArg vbool (show (((S.form n).kind : Int) == 1) = false from beq_false_of_ne (by omega)))) rfl rfl ?_
  refine s_nil <| s_cond_f rfl <| s_skip <| s_seq <| s_region <| s_val rfl rfl rfl rfl <| s_nil <| s_seq <| s_seq <| s_region <| s_val rfl rfl rfl rfl <| s_val rfl rfl rfl rfl ?_
  refine s_val rfl (o_lenV rfl rfl (args1 rfl (argsD_isL _)) rfl ((hra fun _ => none).lenKind rfl) (hra _).len) rfl rfl ?_
  refine s_val rfl rfl rfl rfl <| s_nil <| s_block ?_
  rename_i h
  refine s_rounds (ι := TLx) (fun i => ⟨[(0, .ptr s 0 0), (2, .map mp), (6, .lptr 6 0), (7, .lptr 7 0), (8, i.v), (24, .d (S.form n).argsD), (25, vint (S.form n).args.length), (26, vint i.i)], [(6, [.d (.int .i64 0), .d (.int .i64 0), .d (.str []), .d .nilslice]), (7, (S.form n).cells.map .d)], i.h⟩) (fun i => i.i ≤ ts.length ∧ TL i.h i.v ((Ty.renameL (vnum m) ts).take i.i) ∧ Ext h i.h ∧ ∀ id ∈ i.v.own, h.next ≤ id) (fun i => ts.length - i.i) ?_ ⟨0, .d .nilslice, h⟩ ⟨Nat.zero_le _, ⟨.nil, rfl⟩, Ext.refl _, fun id h1 => by simp [AV.own] at h1⟩ ⟨⟨rfl, rfl, rfl, rfl, rfl, rfl, rfl, rfl, trivial⟩, ⟨rfl, rfl, trivial⟩, rfl⟩
  rintro ⟨i, v, h1⟩ ⟨hi, hv, he, ho⟩
  simp only at hi hv he ho
  have hcell := hv.row.cell
  refine s_seq <| s_region <| s_val rfl rfl rfl rfl <| s_nil <| s_seq ?_
  by_cases hil : i < ts.length
  ·have hil2 : i < (S.form n).args.length := by omega
   have hlt1 : decide ((i : Int) < ((S.form n).args.length : Nat)) = true := decide_eq_true (Int.ofNat_lt.2 hil2)
   refine s_cond_t (congrArg (fun t => some (vbool t)) hlt1) ?_
   obtain ⟨q, hq1, hq2⟩ := (hra h1.get).read (C := ctx) (L := lk [(6, [.d (.int .i64 0), .d (.int .i64 0), .d (.str []), .d .nilslice]), (7, (S.form n).cells.map .d)]) hil2 (t := 72) (e := 3) rfl rfl rfl rfl
   refine s_skip <| s_seq <| s_block <| s_seq <| s_region ?_
   refine s_val rfl (o_indexV rfl rfl rfl hq1) rfl rfl ?_
   refine s_val rfl (o_loadV rfl rfl hq2) rfl rfl ?_
   refine s_val rfl rfl rfl rfl <| s_nil <| s_region ?_
   iterate 4 refine s_val rfl rfl rfl rfl ?_
   refine s_ret1 (ih i hil (arg_lt hw hn hil2) (hS.ext he) ((he.keep _ hml).trans hm) (Nat.lt_of_lt_of_le hml he.next)) rfl rfl rfl rfl ?_
   rintro _ h2 ⟨rfl, he2⟩
   have hv2 : TL h2 v ((Ty.renameL (vnum m) ts).take i) := hv.keep he2.next fun id h3 => he2.keep id (hv.row.lt id h3)
   have hil3 : ((Ty.renameL (vnum m) ts).take i).length = i := by rw [List.length_take, Ty.renameL_eq, List.length_map]; omega
   refine s_val rfl (o_bs1 (cs := (Ty.rename (vnum m) (ts.getD i default)).cells) rfl rfl rfl rfl rfl rfl rfl (Ty.cells_length _) (Ty.cells_isCell _) rfl (by decide) rfl) rfl rfl ?_
   refine s_append hv2.row rfl rfl rfl (args2 rfl hcell.2.1 rfl rfl) rfl rfl rfl rfl rfl rfl (by decide) rfl (new := (Ty.rename (vnum m) (ts.getD i default)).cells.map .d) (by show _ = _; simp only [elemsOf]; rw [takeExact_all (by rw [Ty.cells_length])]) (Ty.cells_isCell _) (by decide) (by rw [List.length_map, Ty.cells_length]) (by decide) (by rw [hil3]; omega) rfl rfl ?_
   intro h3 v3 L3
   have hv3 := hv2.snoc L3
   have e3 : Ext h h3 := ⟨Nat.le_trans (he.trans he2).next L3.next, fun id h4 => by
    have h5 := (he.trans he2).next
    rw [L3.keep id (by omega) (fun h6 => by have := ho id h6; omega)]; exact (he.trans he2).keep id h4⟩
   refine s_val rfl rfl rfl rfl <| s_nil <| s_region ?_
   refine s_val rfl (o_eq rfl (wrap_succ (n := i) (by omega))) rfl rfl ?_
   refine s_val rfl rfl rfl rfl <| s_nil ?_
   refine ⟨⟨i + 1, v3, h3⟩, ⟨hil, ?_, e3, fun id h4 => ?_⟩, by simp only; omega, ⟨rfl, rfl, rfl, rfl, rfl, rfl, rfl, rfl, trivial⟩, ⟨rfl, rfl, trivial⟩, rfl⟩
   ·have : (Ty.renameL (vnum m) ts).take (i + 1) = (Ty.renameL (vnum m) ts).take i ++ [(ts.getD i default).rename (vnum m)] := by
     rw [Ty.renameL_eq, List.take_add_one]
     simp [List.getD_eq_getElem?_getD, hil]
    rw [this]; exact hv3
   ·rcases L3.own id h4 with h5 | h5
    ·exact ho id h5
    ·have := (he.trans he2).next; omega
  ·have hlt1 : decide ((i : Int) < ((S.form n).args.length : Nat)) = false := decide_eq_false (fun h => hil (by have := Int.ofNat_lt.1 h; omega))
   refine s_cond_f (congrArg (fun t => some (vbool t)) hlt1) ?_
   refine s_exit ?_
   refine s_seq ?_
   have hie : i = ts.length := by omega
   have htk : (Ty.renameL (vnum m) ts).take i = Ty.renameL (vnum m) ts := List.take_of_length_le (by rw [Ty.renameL_eq, List.length_map]; omega)
   rw [htk] at hv
   obtain ⟨h9, hz, hn9, hk9⟩ := frz_rows hv.row
   rw [hv.nil] at hz
   have e9 : Ext h h9 := ⟨by rw [hn9]; exact he.next, fun id h4 => by rw [hk9 id (fun h5 => by have := ho id h5; omega)]; exact he.keep id h4⟩
   refine s_region ?_
   iterate 4 refine s_val rfl rfl rfl rfl ?_
   refine s_frz rfl rfl rfl rfl rfl hz ?_
   refine s_val (v := (Ty.mk (S.form n).kind 0 (S.form n).name (Ty.renameL (vnum m) ts).isEmpty (Ty.renameL (vnum m) ts)).agg) rfl ?_ rfl rfl ?_
   ·rename_i hfin
    show _ = some (Eff.val (.d (.agg [.int .i64 (S.form n).kind, .int .i64 0, .str (S.form n).name, rowD ((Ty.renameL (vnum m) ts).isEmpty && (Ty.renameL (vnum m) ts).isEmpty) (Ty.renameL (vnum m) ts).length (Ty.cellsL (Ty.renameL (vnum m) ts))])))
    rw [Bool.and_self]
    have hy := rowD_cases (Ty.renameL (vnum m) ts).isEmpty (Ty.renameL (vnum m) ts).length (Ty.cellsL (Ty.renameL (vnum m) ts))
    generalize rowD (Ty.renameL (vnum m) ts).isEmpty (Ty.renameL (vnum m) ts).length (Ty.cellsL (Ty.renameL (vnum m) ts)) = x at hy ⊢
    rcases hy with rfl | rfl <;> rfl
   refine s_setL rfl (o_storeL rfl rfl rfl rfl rfl rfl (Ty.cells_isCell _) rfl (Nat.le_refl 4)) rfl ?_
   refine s_nil <| s_ret ?_
   have hk2 : ((S.form n).kind : Int) ≠ 1 := by omega
   refine ⟨.inr rfl, _, rfl, ?_, e9⟩
   simp only [Ty.rename, if_neg hk2, ← renameL_isEmpty (f := vnum m) ts]
   rfl
end Go.Dv.Us
