/- A part of the proof of InferUses, second form: for every input of bulk at most 1048576 the call returns true and the arguments read as they did. Its condition: that bulk. -/
import Derived.Test.YtanhfhjoeoinoaaGreatDoorU24
/- Types az trees: parts, variables, other names for variables. -/
namespace Go.Dv.Us
inductive Ty where
 | mk (kind num : Int) (name : List UInt8) (isnil : Bool) (args : List Ty)
 deriving Inhabited
namespace Ty
def kind : Ty → Int | .mk k _ _ _ _ => k
def num : Ty → Int | .mk _ n _ _ _ => n
def name : Ty → List UInt8 | .mk _ _ s _ _ => s
def args : Ty → List Ty | .mk _ _ _ _ az => az
theorem ind {P : Ty → Prop} (h : ∀ k n s b az, (∀ a ∈ az, P a) → P (.mk k n s b az)) : ∀ t, P t := by
 intro t
 refine Ty.rec (motive_1 := P) (motive_2 := fun az => ∀ a ∈ az, P a) (fun k n s b az ih => h k n s b az ih) (fun a ha => by simp at ha) (fun a az h1 h2 x hx => ?_) t
 rcases List.mem_cons.1 hx with h3 | h3
 ·subst h3; exact h1
 ·exact h2 x h3
mutual
def size : Ty → Nat
 | .mk _ _ _ _ az => 1 + sizeL az
def sizeL : List Ty → Nat
 | [] => 0
 | t :: r => size t + sizeL r
end
mutual
def vars : Ty → List Nat
 | .mk k n _ _ az => if k = 1 then [n.toNat] else varsL az
def varsL : List Ty → List Nat
 | [] => []
 | t :: r => vars t ++ varsL r
end
mutual
def pre : Ty → List Ty
 | .mk k n s b az => .mk k n s b az :: preL az
def preL : List Ty → List Ty
 | [] => []
 | t :: r => pre t ++ preL r
end
mutual
def rename (f : Nat → Nat) : Ty → Ty
 | .mk k n s _ az => if k = 1 then .mk 1 (f n.toNat : Nat) [] true [] else .mk k 0 s az.isEmpty (renameL f az)
def renameL (f : Nat → Nat) : List Ty → List Ty
 | [] => []
 | t :: r => rename f t :: renameL f r
end
theorem size_pos (t : Ty) : 1 ≤ t.size := by cases t; simp [size]
theorem sizeL_append : ∀ (l m : List Ty), sizeL (l ++ m) = sizeL l + sizeL m
 | [], m => by simp [sizeL]
 | t :: l, m => by simp only [List.cons_append, sizeL, sizeL_append l m]; omega
theorem sizeL_ge : ∀ (l : List Ty), l.length ≤ sizeL l
 | [] => by simp [sizeL]
 | t :: l => by have := sizeL_ge l; have := t.size_pos; simp only [sizeL, List.length_cons]; omega
theorem size_mem {a : Ty} : ∀ {l : List Ty}, a ∈ l → a.size ≤ sizeL l
 | [], h => by simp at h
 | t :: l, h => by
  simp only [sizeL]
  rcases List.mem_cons.1 h with h1 | h1
  ·subst h1; omega
  ·have := size_mem h1; omega
theorem varsL_append : ∀ (l m : List Ty), varsL (l ++ m) = varsL l ++ varsL m
 | [], m => by simp [varsL]
 | t :: l, m => by simp only [List.cons_append, varsL, varsL_append l m, List.append_assoc]
theorem mem_varsL {v : Nat} : ∀ {l : List Ty}, v ∈ varsL l ↔ ∃ a ∈ l, v ∈ vars a
 | [] => by simp [varsL]
 | t :: l => by simp only [varsL, List.mem_append, mem_varsL (l := l), List.mem_cons, exists_eq_or_imp]
theorem renameL_eq (f : Nat → Nat) : ∀ (l : List Ty), renameL f l = l.map (rename f)
 | [] => rfl
 | t :: l => by simp only [renameL, List.map_cons, renameL_eq f l]
theorem rename_congr {f g : Nat → Nat} : ∀ (t : Ty), (∀ v ∈ t.vars, f v = g v) → t.rename f = t.rename g := by
 intro t
 induction t using Ty.ind with
 | h k n s b az ih =>
  intro h
  simp only [rename, vars] at h ⊢
  split
  ·rename_i hk
   rw [if_pos hk] at h
   rw [h _ (by simp)]
  ·rename_i hk
   rw [if_neg hk] at h
   congr 1
   rw [renameL_eq, renameL_eq]
   exact List.map_congr_left fun a ha => ih a ha fun v hv => h v (mem_varsL.2 ⟨a, ha, hv⟩)
theorem preL_length : ∀ (t : Ty), t.pre.length = t.size := by
 intro t
 induction t using Ty.ind with
 | h k n s b az ih =>
  have key : ∀ l : List Ty, (∀ a ∈ l, a.pre.length = a.size) → (preL l).length = sizeL l := by
   intro l
   induction l with
   | nil => intro _; rfl
   | cons a l ih2 => intro h; simp only [preL, sizeL, List.length_append, h a (by simp), ih2 fun x hx => h x (by simp [hx])]
  simp only [pre, size, List.length_cons, key az ih]; omega
end Ty
/-! ### Lists of variables, each once -/
def addV (l : List Nat) (v : Nat) : List Nat := if v ∈ l then l else l ++ [v]
def addVs (l vs : List Nat) : List Nat := vs.foldl addV l
theorem addVs_append (l a b : List Nat) : addVs l (a ++ b) = addVs (addVs l a) b := List.foldl_append
theorem addV_pre (l : List Nat) (v : Nat) : ∃ m, addV l v = l ++ m := by
 unfold addV
 split
 ·exact ⟨[], by simp⟩
 ·exact ⟨_, rfl⟩
theorem addVs_pre : ∀ (vs l : List Nat), ∃ m, addVs l vs = l ++ m
 | [], l => ⟨[], by simp [addVs]⟩
 | v :: vs, l => by
  obtain ⟨m, hm⟩ := addV_pre l v
  obtain ⟨m', hm'⟩ := addVs_pre vs (addV l v)
  exact ⟨m ++ m', by rw [addVs, List.foldl_cons]; rw [addVs] at hm'; rw [hm', hm, List.append_assoc]⟩
theorem mem_addV {l : List Nat} {v x : Nat} : x ∈ addV l v ↔ x ∈ l ∨ x = v := by
 unfold addV
 split
 ·constructor
  ·exact .inl
  ·rintro (h | h)
   ·exact h
   ·subst h; assumption
 ·simp
theorem mem_addVs {x : Nat} : ∀ {vs l : List Nat}, x ∈ addVs l vs ↔ x ∈ l ∨ x ∈ vs
 | [], l => by simp [addVs]
 | v :: vs, l => by
  have := mem_addVs (x := x) (vs := vs) (l := addV l v)
  rw [addVs] at this ⊢
  rw [List.foldl_cons, this, mem_addV, List.mem_cons, or_assoc]
/-- Where it first stands. -/
def idx (l : List Nat) (v : Nat) : Nat := l.idxOf v
theorem idx_append {l m : List Nat} {v : Nat} (h : v ∈ l) : idx (l ++ m) v = idx l v := by
 unfold idx
 rw [List.idxOf_append, if_pos h]
theorem idx_addVs {l vs : List Nat} {v : Nat} (h : v ∈ l) : idx (addVs l vs) v = idx l v := by
 obtain ⟨m, hm⟩ := addVs_pre vs l
 rw [hm, idx_append h]
/-- Its variables numbered in order. -/
def Ty.close (t : Ty) : Ty := t.rename (idx (addVs [] t.vars))
end Go.Dv.Us
/- What a node of a store stands for; the look for cycles. -/
namespace Go.Dv.Us
def Store.arg (S : Store) (n i : Nat) : Nat := (S.form n).args.getD i 0
/-- A node stands for a type whose variables are nodes. -/
inductive Den (S : Store) : Nat → Ty → Prop
 | var {n : Nat} (h : (S.form n).kind = 1) : Den S n (.mk 1 (S.find n : Nat) [] true [])
 | app {n : Nat} {ts : List Ty} (h : (S.form n).kind ≠ 1) (hl : ts.length = (S.form n).args.length) (ha : ∀ i, i < ts.length → Den S (S.arg n i) (ts.getD i default)) :
   Den S n (.mk (S.form n).kind 0 (S.form n).name ts.isEmpty ts)
theorem form_of_find {S : Store} {n m : Nat} (h : S.find n = S.find m) : S.form n = S.form m := by
 unfold Store.form Store.formN; rw [h]
theorem Den.of_find {S : Store} {n m : Nat} {T : Ty} (h : S.find n = S.find m) (d : Den S n T) : Den S m T := by
 have hf := form_of_find h
 cases d with
 | var h1 => rw [h]; rw [hf] at h1; exact .var h1
 | app h1 hl ha =>
  unfold Store.arg at ha
  rw [hf] at h1 hl ha ⊢
  exact .app h1 hl ha
theorem getD_mem' {α : Type} [Inhabited α] {l : List α} {i : Nat} (h : i < l.length) : l.getD i default ∈ l := by
 rw [List.getD_eq_getElem?_getD, List.getElem?_eq_getElem h]; simp
theorem Den.unique {S : Store} {n : Nat} {T : Ty} (d : Den S n T) : ∀ {T'}, Den S n T' → T = T' := by
 induction d with
 | var h =>
  intro T' d'
  cases d' with
  | var h' => rfl
  | app h' _ _ => exact absurd h h'
 | @app n ts h hl ha ih =>
  intro T' d'
  cases d' with
  | var h' => exact absurd h' h
  | @app _ ts' h' hl' ha' =>
   have : ts = ts' := by
    apply List.ext_getElem (by rw [hl, hl'])
    intro i h1 h2
    have := ih i h1 (ha' i h2)
    simpa [List.getD_eq_getElem?_getD, h1, h2] using this
   subst this; rfl
/-- A part stands for less. -/
theorem Den.part {S : Store} {n : Nat} {T : Ty} (d : Den S n T) {i : Nat} (h : (S.form n).kind ≠ 1) (hi : i < (S.form n).args.length) : ∃ T', Den S (S.arg n i) T' ∧ T'.size < T.size := by
 cases d with
 | var h' => exact absurd h' h
 | app h' hl ha =>
  rename_i ts
  have hi' : i < ts.length := by rw [hl]; exact hi
  refine ⟨_, ha i hi', ?_⟩
  simp only [Ty.size]
  have := Ty.size_mem (getD_mem' hi')
  omega
/-! ### Maps from numbers -/
theorem getN_putN {α : Type} {a n : Nat} {x : α} : ∀ {m : List (Nat × α)}, getN (putN m a x) n = if n = a then some x else getN m n
 | [] => by
  simp only [putN, getN]
  by_cases h : a = n
  ·subst h; simp
  ·rw [if_neg h, if_neg (fun h1 => h h1.symm)]
 | (k, v) :: r => by
  simp only [putN]
  by_cases h : k = a
  ·subst h
   simp only [if_true, getN]
   by_cases h1 : k = n
   ·subst h1; simp
   ·simp [h1, show ¬ n = k from fun h2 => h1 h2.symm]
  ·simp only [h, if_false, getN, getN_putN (m := r)]
   by_cases h1 : k = n
   ·subst h1; simp [h]
   ·simp [h1]
/-! ### The look for cycles: it ends -/
/-- Steps that are left. -/
def left (S : Store) : List (Nat × Nat) → Nat
 | [] => 0
 | (n, i) :: w => (S.form n).args.length - i + 1 + left S w
def fresh (S : Store) (m : List (Nat × Nat)) : Nat := (List.range S.nodes.length).countP fun n => (getN m n).isNone
structure CycOk (S : Store) (m w : List (Nat × Nat)) : Prop where
 le : ∀ q ∈ w, q.1 < S.nodes.length ∧ q.2 ≤ (S.form q.1).args.length
 val : ∀ n, getN m n = none ∨ getN m n = some 1 ∨ getN m n = some 2
 seen : ∀ q ∈ w, getN m q.1 ≠ none
theorem fresh_put {S : Store} {m : List (Nat × Nat)} {a x : Nat} (ha : a < S.nodes.length) (h : getN m a = none) : fresh S m = fresh S (putN m a x) + 1 := by
 unfold fresh
 refine countP_one ha ?_ ?_ fun n hn => ?_
 ·simp [h]
 ·simp [getN_putN]
 ·simp [getN_putN, hn]
theorem fresh_again {S : Store} {m : List (Nat × Nat)} {a x : Nat} (h : getN m a ≠ none) : fresh S (putN m a x) = fresh S m := by
 unfold fresh
 apply List.countP_congr
 intro n _
 rw [getN_putN]
 by_cases hn : n = a
 ·subst hn
  rw [if_pos rfl]
  cases h1 : getN m n with
  | none => exact absurd h1 h
  | some y => simp
 ·rw [if_neg hn]
theorem val_put {m : List (Nat × Nat)} {a x : Nat} (hv : ∀ n, getN m n = none ∨ getN m n = some 1 ∨ getN m n = some 2) (hx : x = 1 ∨ x = 2) : ∀ n, getN (putN m a x) n = none ∨ getN (putN m a x) n = some 1 ∨ getN (putN m a x) n = some 2 := by
 intro n
 rw [getN_putN]
 split
 ·rcases hx with rfl | rfl
  ·exact .inr (.inl rfl)
  ·exact .inr (.inr rfl)
 ·exact hv n
theorem seen_put {m : List (Nat × Nat)} {a x n : Nat} (h : getN m n ≠ none) : getN (putN m a x) n ≠ none := by
 rw [getN_putN]; split
 ·simp
 ·exact h
/-- What one step of the look does. -/
inductive CycStep (S : Store) : List (Nat × Nat) → List (Nat × Nat) → List (Nat × Nat) → List (Nat × Nat) → Prop
 | done {m n w} : CycStep S m ((n, (S.form n).args.length) :: w) (putN m n 2) w
 | push {m n i w} (hi : i < (S.form n).args.length) (h : getN m (S.find (S.arg n i)) = none) : CycStep S m ((n, i) :: w) (putN m (S.find (S.arg n i)) 1) ((S.find (S.arg n i), 0) :: (n, i + 1) :: w)
 | pass {m n i w} (hi : i < (S.form n).args.length) (h : getN m (S.find (S.arg n i)) = some 2) : CycStep S m ((n, i) :: w) m ((n, i + 1) :: w)
theorem cycF_cases {S : Store} {m w : List (Nat × Nat)} (h : CycOk S m w) : (w = [] ∧ ∀ k, S.cycF (k + 1) m w = some false) ∨
  (∃ n i w', w = (n, i) :: w' ∧ i < (S.form n).args.length ∧ getN m (S.find (S.arg n i)) = some 1 ∧ ∀ k, S.cycF (k + 1) m w = some true) ∨
  (∃ m' w', CycStep S m w m' w' ∧ ∀ k, S.cycF (k + 1) m w = S.cycF k m' w') := by
 cases w with
 | nil => exact .inl ⟨rfl, fun _ => rfl⟩
 | cons q w =>
  obtain ⟨n, i⟩ := q
  obtain ⟨hn, hi⟩ := h.le (n, i) (by simp)
  simp only at hi
  by_cases hil : i = (S.form n).args.length
  ·subst hil
   exact .inr (.inr ⟨_, _, .done, fun k => by simp only [Store.cycF, if_true]⟩)
  ·have hlt : i < (S.form n).args.length := by omega
   rcases h.val (S.find (S.arg n i)) with h1 | h1 | h1
   ·refine .inr (.inr ⟨_, _, .push hlt h1, fun k => ?_⟩)
    simp only [Store.arg] at h1
    simp only [Store.cycF, if_neg hil, h1, Option.getD_none]; rfl
   ·refine .inr (.inl ⟨n, i, w, rfl, hlt, h1, fun k => ?_⟩)
    simp only [Store.arg] at h1
    simp only [Store.cycF, if_neg hil, h1, Option.getD_some]; rfl
   ·refine .inr (.inr ⟨_, _, .pass hlt h1, fun k => ?_⟩)
    simp only [Store.arg] at h1
    simp only [Store.cycF, if_neg hil, h1, Option.getD_some]; rfl
theorem arg_lt {S : Store} (hw : Wf S) {n i : Nat} (hn : n < S.nodes.length) (hi : i < (S.form n).args.length) : S.arg n i < S.nodes.length :=
 hw.form_args hn _ (by unfold Store.arg; rw [List.getD_eq_getElem?_getD, List.getElem?_eq_getElem hi]; simp)
theorem CycStep.ok {S : Store} (hw : Wf S) {m w m' w' : List (Nat × Nat)} (h : CycOk S m w) (s : CycStep S m w m' w') : CycOk S m' w' ∧ fresh S m' * 4098 + left S w' < fresh S m * 4098 + left S w := by
 cases s with
 | @done n =>
  refine ⟨⟨fun q hq => h.le q (by simp [hq]), val_put h.val (.inr rfl), fun q hq => seen_put (h.seen q (by simp [hq]))⟩, ?_⟩
  rw [fresh_again (h.seen (n, (S.form n).args.length) (List.mem_cons_self ..))]
  simp only [left]
  omega
 | @push n i w hi h1 =>
  obtain ⟨hn, _⟩ := h.le (n, i) (by simp)
  have hal := find_lt hw (arg_lt hw hn hi)
  refine ⟨⟨fun q hq => ?_, val_put h.val (.inl rfl), fun q hq => ?_⟩, ?_⟩
  ·rcases List.mem_cons.1 hq with rfl | hq
   ·exact ⟨hal, Nat.zero_le _⟩
   ·rcases List.mem_cons.1 hq with rfl | hq
    ·exact ⟨hn, hi⟩
    ·exact h.le q (by simp [hq])
  ·rcases List.mem_cons.1 hq with rfl | hq
   ·rw [getN_putN, if_pos rfl]; simp
   ·rcases List.mem_cons.1 hq with rfl | hq
    ·exact seen_put (h.seen (n, i) (by simp))
    ·exact seen_put (h.seen q (by simp [hq]))
  ·rw [fresh_put (x := 1) hal h1]
   have h3 := hw.form_len hal
   simp only at h3 hi
   simp only [left]
   omega
 | @pass n i w hi h1 =>
  obtain ⟨hn, _⟩ := h.le (n, i) (by simp)
  refine ⟨⟨fun q hq => ?_, h.val, fun q hq => ?_⟩, ?_⟩
  ·rcases List.mem_cons.1 hq with rfl | hq
   ·exact ⟨hn, hi⟩
   ·exact h.le q (by simp [hq])
  ·rcases List.mem_cons.1 hq with rfl | hq
   ·exact h.seen (n, i) (by simp)
   ·exact h.seen q (by simp [hq])
  ·simp only [left]; omega
theorem cycF_some {S : Store} (hw : Wf S) : ∀ (k : Nat) {m w : List (Nat × Nat)}, CycOk S m w → fresh S m * 4098 + left S w < k → ∃ b, S.cycF k m w = some b := by
 intro k
 induction k with
 | zero => intro m w _ h; exact absurd h (Nat.not_lt_zero _)
 | succ k ih =>
  intro m w ho h
  rcases cycF_cases ho with ⟨_, h1⟩ | ⟨_, _, _, _, _, _, h1⟩ | ⟨m', w', hs, h1⟩
  ·exact ⟨_, h1 k⟩
  ·exact ⟨_, h1 k⟩
  ·rw [h1 k]
   obtain ⟨h2, h3⟩ := hs.ok hw ho
   exact ih h2 (Nat.lt_of_lt_of_le h3 (Nat.le_of_lt_succ h))
theorem cyc_ok {S : Store} (hw : Wf S) {n : Nat} (hn : n < S.nodes.length) : CycOk S (putN [] (S.find n) 1) [(S.find n, 0)] := by
 refine ⟨fun q hq => ?_, val_put (fun _ => .inl rfl) (.inl rfl), fun q hq => ?_⟩
 ·simp at hq; subst hq; exact ⟨find_lt hw hn, Nat.zero_le _⟩
 ·simp at hq; subst hq; rw [getN_putN, if_pos rfl]; simp
theorem cyc_some {S : Store} (hw : Wf S) {n : Nat} (hn : n < S.nodes.length) {k : Nat} (hk : 2 ^ 25 ≤ k) : ∃ b, S.cyc k n = some b := by
 unfold Store.cyc
 refine cycF_some hw k (cyc_ok hw hn) ?_
 have h1 := hw.size
 have h2 : fresh S (putN [] (S.find n) 1) ≤ S.nodes.length := by
  unfold fresh
  have := List.countP_le_length (p := fun m => (getN (putN [] (S.find n) 1) m).isNone) (l := List.range S.nodes.length)
  simpa using this
 have h3 := hw.form_len (find_lt hw hn)
 simp only [left]
 omega
/-! ### What it tells -/
/-- The way that is looked at: what stands ahead of an entry's place is done, or is the entry behind it. -/
def Way (S : Store) (m : List (Nat × Nat)) : Option Nat → List (Nat × Nat) → Prop
 | _, [] => True
 | top, (n, i) :: w => (∀ j, j < i → getN m (S.find (S.arg n j)) = some 2 ∨ some (S.find (S.arg n j)) = top) ∧ Way S m (some n) w
theorem Way.put {S : Store} {m : List (Nat × Nat)} {a x : Nat} (h : getN m a ≠ some 2 ∨ x = 2) : ∀ {w : List (Nat × Nat)} {top : Option Nat}, Way S m top w → Way S (putN m a x) top w
 | [], _, _ => trivial
 | (n, i) :: w, top, hw => by
  refine ⟨fun j hj => ?_, Way.put h hw.2⟩
  rcases hw.1 j hj with h1 | h1
  ·left
   rw [getN_putN]
   split
   ·rename_i he
    rcases h with h | h
    ·rw [he] at h1; exact absurd h1 h
    ·rw [h]
   ·exact h1
  ·exact .inr h1
theorem Way.top {S : Store} {m : List (Nat × Nat)} {a : Nat} (h : getN m a = some 2) : ∀ {w : List (Nat × Nat)}, Way S m (some a) w → Way S m none w
 | [], _ => trivial
 | (n, i) :: w, hw => ⟨fun j hj => by
   rcases hw.1 j hj with h1 | h1
   ·exact .inl h1
   ·cases h1; exact .inl h, hw.2⟩
structure Told (S : Store) (s : Nat) (m w : List (Nat × Nat)) : Prop where
 den : ∀ n, getN m n = some 2 → ∃ T, Den S n T
 way : Way S m none w
 start : getN m s = some 2 ∨ ∃ i, (s, i) ∈ w
 one : ∀ q ∈ w, getN m q.1 = some 1
 nodup : (w.map (·.1)).Nodup
theorem find_find {S : Store} (hw : Wf S) {n : Nat} (hn : n < S.nodes.length) : S.find (S.find n) = S.find n := find_self (find_root hw hn)
/-- Parts that stand for types: the whole does. -/
theorem Den.of_parts {S : Store} {n : Nat} (h : ∀ j, j < (S.form n).args.length → ∃ T, Den S (S.arg n j) T) : ∃ T, Den S n T := by
 by_cases hk : (S.form n).kind = 1
 ·exact ⟨_, .var hk⟩
 ·have key : ∀ k, k ≤ (S.form n).args.length → ∃ ts : List Ty, ts.length = k ∧ ∀ j, j < k → Den S (S.arg n j) (ts.getD j default) := by
   intro k
   induction k with
   | zero => intro _; exact ⟨[], rfl, fun j hj => absurd hj (Nat.not_lt_zero _)⟩
   | succ k ih =>
    intro hk
    obtain ⟨ts, h1, h2⟩ := ih (by omega)
    obtain ⟨T, hT⟩ := h k (by omega)
    refine ⟨ts ++ [T], by simp [h1], fun j hj => ?_⟩
    rw [List.getD_eq_getElem?_getD]
    by_cases hjk : j < k
    ·rw [List.getElem?_append_left (by omega), ← List.getD_eq_getElem?_getD]; exact h2 j hjk
    ·have : j = k := by omega
     subst this
     rw [List.getElem?_append_right (by omega), h1]
     simpa using hT
  obtain ⟨ts, h1, h2⟩ := key _ (Nat.le_refl _)
  exact ⟨_, .app hk h1 fun j hj => h2 j (by rw [← h1]; exact hj)⟩
theorem Told.step {S : Store} (hw : Wf S) {s : Nat} {m w m' w' : List (Nat × Nat)} (ho : CycOk S m w) (h : Told S s m w) (st : CycStep S m w m' w') : Told S s m' w' := by
 cases st with
 | @done n =>
  have h1 : getN m n = some 1 := h.one _ (List.mem_cons_self ..)
  have hn := (ho.le _ (List.mem_cons_self ..)).1
  have hnd := h.nodup
  simp only [List.map_cons, List.nodup_cons] at hnd
  have hnw : ∀ q ∈ w', q.1 ≠ n := fun q hq he => hnd.1 (List.mem_map.2 ⟨q, hq, he⟩)
  refine ⟨fun a ha => ?_, ?_, ?_, fun q hq => ?_, hnd.2⟩
  ·rw [getN_putN] at ha
   split at ha
   ·rename_i he
    subst he
    refine Den.of_parts fun j hj => ?_
    rcases h.way.1 j hj with h2 | h2
    ·obtain ⟨T, hT⟩ := h.den _ h2
     exact ⟨T, hT.of_find (find_find hw (arg_lt hw hn hj))⟩
    ·cases h2
   ·exact h.den a ha
  ·exact (h.way.2.put (.inr rfl)).top (by rw [getN_putN, if_pos rfl])
  ·rcases h.start with h2 | ⟨i, h2⟩
   ·left; rw [getN_putN]; split
    ·rfl
    ·exact h2
   ·rcases List.mem_cons.1 h2 with h3 | h3
    ·cases h3; left; rw [getN_putN, if_pos rfl]
    ·exact .inr ⟨i, h3⟩
  ·rw [getN_putN, if_neg (hnw q hq)]; exact h.one q (by simp [hq])
 | @push n i w hi h1 =>
  have hnw : ∀ q ∈ (n, i) :: w, q.1 ≠ S.find (S.arg n i) := fun q hq he => by
   have := h.one q hq
   rw [he, h1] at this; cases this
  refine ⟨fun a ha => ?_, ⟨fun j hj => absurd hj (Nat.not_lt_zero _), fun j hj => ?_, ?_⟩, ?_, fun q hq => ?_, ?_⟩
  ·rw [getN_putN] at ha
   split at ha
   ·cases ha
   ·exact h.den a ha
  ·by_cases hji : j = i
   ·subst hji; exact .inr rfl
   ·rcases h.way.1 j (by omega) with h2 | h2
    ·left
     rw [getN_putN, if_neg (fun h3 => by rw [h3, h1] at h2; cases h2)]
     exact h2
    ·cases h2
  ·exact h.way.2.put (.inl (by rw [h1]; simp))
  ·rcases h.start with h2 | ⟨j, h2⟩
   ·left; rw [getN_putN, if_neg (fun h3 => by rw [h3, h1] at h2; cases h2)]; exact h2
   ·rcases List.mem_cons.1 h2 with h3 | h3
    ·cases h3; exact .inr ⟨i + 1, by simp⟩
    ·exact .inr ⟨j, by simp [h3]⟩
  ·rcases List.mem_cons.1 hq with rfl | hq
   ·rw [getN_putN, if_pos rfl]
   ·rcases List.mem_cons.1 hq with rfl | hq
    ·rw [getN_putN, if_neg (hnw (n, i) (by simp))]; exact h.one (n, i) (by simp)
    ·rw [getN_putN, if_neg (hnw q (by simp [hq]))]; exact h.one q (by simp [hq])
  ·have hnd := h.nodup
   simp only [List.map_cons, List.nodup_cons] at hnd ⊢
   refine ⟨fun h2 => ?_, hnd⟩
   rcases List.mem_cons.1 h2 with h3 | h3
   ·exact hnw (n, i) (by simp) h3.symm
   ·obtain ⟨q, hq, he⟩ := List.mem_map.1 h3
    exact hnw q (by simp [hq]) he
 | @pass n i w hi h1 =>
  refine ⟨h.den, ⟨fun j hj => ?_, h.way.2⟩, ?_, fun q hq => ?_, h.nodup⟩
  ·by_cases hji : j = i
   ·subst hji; exact .inl h1
   ·exact h.way.1 j (by omega)
  ·rcases h.start with h2 | ⟨j, h2⟩
   ·exact .inl h2
   ·rcases List.mem_cons.1 h2 with h3 | h3
    ·cases h3; exact .inr ⟨i + 1, by simp⟩
    ·exact .inr ⟨j, by simp [h3]⟩
  ·rcases List.mem_cons.1 hq with rfl | hq
   ·exact h.one (n, i) (by simp)
   ·exact h.one q (by simp [hq])
theorem cycF_den {S : Store} (hw : Wf S) {s : Nat} : ∀ (k : Nat) {m w : List (Nat × Nat)}, CycOk S m w → Told S s m w → S.cycF k m w = some false → ∃ T, Den S s T := by
 intro k
 induction k with
 | zero => intro m w _ _ h; cases h
 | succ k ih =>
  intro m w ho ht h
  rcases cycF_cases ho with ⟨rfl, _⟩ | ⟨_, _, _, _, _, _, h1⟩ | ⟨m', w', hs, h1⟩
  ·rcases ht.start with h2 | ⟨i, h2⟩
   ·exact ht.den _ h2
   ·simp at h2
  ·rw [h1 k] at h; cases h
  ·rw [h1 k] at h
   exact ih (hs.ok hw ho).1 (ht.step hw ho hs) h
/-- No cycle is found: the node stands for a type. -/
theorem cyc_den {S : Store} (hw : Wf S) {n k : Nat} (hn : n < S.nodes.length) (h : S.cyc k n = some false) : ∃ T, Den S n T := by
 have ht : Told S (S.find n) (putN [] (S.find n) 1) [(S.find n, 0)] := by
  refine ⟨fun a ha => ?_, ⟨fun j hj => absurd hj (Nat.not_lt_zero _), trivial⟩, .inr ⟨0, by simp⟩, fun q hq => ?_, by simp⟩
  ·rw [getN_putN] at ha; split at ha <;> cases ha
  ·simp at hq; subst hq; rw [getN_putN, if_pos rfl]
 obtain ⟨T, hT⟩ := cycF_den hw k (cyc_ok hw hn) ht h
 exact ⟨T, hT.of_find (find_find hw hn)⟩
/-! ### A node that stands for a type: no cycle is found -/
/-- What stands on the way: each entry is a part of the next one. -/
def Desc (S : Store) : Nat → List (Nat × Nat) → Prop
 | _, [] => True
 | b, (n, _) :: w => ∃ T, Den S n T ∧ b < T.size ∧ Desc S T.size w
theorem Desc.mono {S : Store} {b b' : Nat} (h : b' ≤ b) : ∀ {w : List (Nat × Nat)}, Desc S b w → Desc S b' w
 | [], _ => trivial
 | (n, i) :: w, ⟨T, h1, h2, h3⟩ => ⟨T, h1, by omega, h3⟩
theorem Desc.mem {S : Store} {n : Nat} {T : Ty} (hT : Den S n T) : ∀ {w : List (Nat × Nat)} {b : Nat}, Desc S b w → (∃ i, (n, i) ∈ w) → b < T.size
 | [], _, _, ⟨i, h⟩ => by simp at h
 | (a, j) :: w, b, ⟨T', h1, h2, h3⟩, ⟨i, h⟩ => by
  rcases List.mem_cons.1 h with h4 | h4
  ·cases h4; rw [hT.unique h1]; exact h2
  ·have := Desc.mem hT h3 ⟨i, h4⟩; omega
theorem cycF_not {S : Store} (hw : Wf S) (nok : ∀ n, n < S.nodes.length → (S.form n).kind = 1 → (S.form n).args = []) : ∀ (k : Nat) {m w : List (Nat × Nat)}, CycOk S m w → Desc S 0 w → (∀ a, getN m a = some 1 → ∃ i, (a, i) ∈ w) → S.cycF k m w ≠ some true := by
 intro k
 induction k with
 | zero => intro m w _ _ _ h; cases h
 | succ k ih =>
  intro m w ho hd hop h
  have part : ∀ {n i w'}, w = (n, i) :: w' → i < (S.form n).args.length → ∃ T T', Den S n T ∧ Den S (S.find (S.arg n i)) T' ∧ T'.size < T.size ∧ Desc S T.size w' := fun {n i w'} he hi => by
   subst he
   obtain ⟨T, h2, _, h4⟩ := hd
   have hn := (ho.le (n, i) (by simp)).1
   have hk : (S.form n).kind ≠ 1 := fun hk => by rw [nok n hn hk] at hi; exact absurd hi (Nat.not_lt_zero _)
   obtain ⟨T', h5, h6⟩ := h2.part hk hi
   exact ⟨T, T', h2, h5.of_find (find_find hw (arg_lt hw hn hi)).symm, h6, h4⟩
  rcases cycF_cases ho with ⟨_, h1⟩ | ⟨n, i, w', he, hi, hs, h1⟩ | ⟨m', w', hs, h1⟩
  ·rw [h1 k] at h; cases h
  ·obtain ⟨T, T', h2, h3, h4, h5⟩ := part he hi
   obtain ⟨j, hj⟩ := hop _ hs
   rw [he] at hj
   rcases List.mem_cons.1 hj with h6 | h6
   ·have h7 := congrArg Prod.fst h6
    simp only at h7
    rw [h7] at h3
    rw [h3.unique h2] at h4; omega
   ·have := Desc.mem h3 h5 ⟨j, h6⟩; omega
  ·rw [h1 k] at h
   refine ih (hs.ok hw ho).1 ?_ ?_ h
   ·cases hs with
    | done => obtain ⟨T, _, _, h4⟩ := hd; exact h4.mono (Nat.zero_le _)
    | @push n i w hi _ =>
     obtain ⟨T, T', h2, h3, h4, h5⟩ := part rfl hi
     exact ⟨T', h3, Nat.lt_of_lt_of_le Nat.zero_lt_one T'.size_pos, T, h2, h4, h5⟩
    | pass hi _ => obtain ⟨T, h2, h3, h4⟩ := hd; exact ⟨T, h2, h3, h4⟩
   ·intro a ha
    cases hs with
    | @done n =>
     rw [getN_putN] at ha
     split at ha
     ·cases ha
     ·rename_i hne
      obtain ⟨i, hi⟩ := hop a ha
      rcases List.mem_cons.1 hi with h2 | h2
      ·exact absurd (congrArg Prod.fst h2) hne
      ·exact ⟨i, h2⟩
    | @push n i w hi _ =>
     rw [getN_putN] at ha
     split at ha
     ·rename_i he; subst he; exact ⟨0, by simp⟩
     ·obtain ⟨j, hj⟩ := hop a ha
      rcases List.mem_cons.1 hj with h2 | h2
      ·cases h2; exact ⟨i + 1, by simp⟩
      ·exact ⟨j, by simp [h2]⟩
    | @pass n i w hi _ =>
     obtain ⟨j, hj⟩ := hop a ha
     rcases List.mem_cons.1 hj with h2 | h2
     ·cases h2; exact ⟨i + 1, by simp⟩
     ·exact ⟨j, by simp [h2]⟩
theorem den_cyc {S : Store} (hw : Wf S) (nok : ∀ n, n < S.nodes.length → (S.form n).kind = 1 → (S.form n).args = []) {n : Nat} {T : Ty} (hn : n < S.nodes.length) (h : Den S n T) {k : Nat} (hk : 2 ^ 25 ≤ k) : S.cyc k n = some false := by
 obtain ⟨b, hb⟩ := cyc_some hw hn hk
 cases b with
 | false => exact hb
 | true =>
  refine absurd hb (cycF_not hw nok _ (cyc_ok hw hn) ⟨T, h.of_find (find_find hw hn).symm, Nat.lt_of_lt_of_le Nat.zero_lt_one T.size_pos, trivial⟩ fun a ha => ?_)
  rw [getN_putN] at ha
  split at ha
  ·rename_i he; subst he; exact ⟨0, by simp⟩
  ·cases ha
end Go.Dv.Us
/- The variables within nodes, each once, from the left. -/
namespace Go.Dv.Us
/-- The work's head is its end. -/
def Store.dfs (S : Store) : Nat → List (Nat × Nat) → List Nat → List Nat → Option (List (Nat × Nat) × List Nat)
 | 0, _, _, _ => none
 | _ + 1, m, [], out => some (m, out)
 | k + 1, m, a :: w, out =>
  if getN m (S.find a) ≠ none then S.dfs k m w out
  else S.dfs k (putN m (S.find a) 1) ((S.form (S.find a)).args ++ w) (if (S.form (S.find a)).kind = 1 then out ++ [S.find a] else out)
theorem addVs_mem : ∀ {vs l : List Nat}, (∀ v ∈ vs, v ∈ l) → addVs l vs = l
 | [], _, _ => rfl
 | v :: vs, l, h => by
  have h1 : addV l v = l := by unfold addV; rw [if_pos (h v (by simp))]
  show addVs (addV l v) vs = l
  rw [h1]
  exact addVs_mem fun x hx => h x (by simp [hx])
structure Seen (S : Store) (m : List (Nat × Nat)) (out : List Nat) (b : Nat) : Prop where
 val : ∀ n, getN m n = none ∨ getN m n = some 1
 outs : ∀ v ∈ out, getN m v ≠ none
 full : ∀ n T, getN m n ≠ none → Den S n T → T.size ≤ b → ∀ v ∈ T.vars, v ∈ out
structure Went (S : Store) (m : List (Nat × Nat)) (out : List Nat) (m' : List (Nat × Nat)) (out' : List Nat) : Prop where
 keep : ∀ n, getN m n ≠ none → getN m' n ≠ none
 val : ∀ n, getN m' n = none ∨ getN m' n = some 1
 outs : ∀ v ∈ out', getN m' v ≠ none
 sub : ∀ v ∈ out, v ∈ out'
 new : ∀ n T, getN m' n ≠ none → Den S n T → getN m n ≠ none ∨ ∀ v ∈ T.vars, v ∈ out'
section
variable {S : Store} {m m' m'' : List (Nat × Nat)} {out out' out'' : List Nat} {b b' : Nat}
theorem Seen.refl (h : Seen S m out b) : Went S m out m out := ⟨fun _ h => h, h.val, h.outs, fun _ h => h, fun _ _ h _ => .inl h⟩
theorem Seen.went (h : Seen S m out b) (g : Went S m out m' out') : Seen S m' out' b :=
 ⟨g.val, g.outs, fun n T h1 h2 h3 v hv => by
  rcases g.new n T h1 h2 with h4 | h4
  ·exact g.sub v (h.full n T h4 h2 h3 v hv)
  ·exact h4 v hv⟩
theorem Seen.mono (h : Seen S m out b) (hb : b' ≤ b) : Seen S m out b' := ⟨h.val, h.outs, fun n T h1 h2 h3 => h.full n T h1 h2 (Nat.le_trans h3 hb)⟩
theorem Went.trans (a : Went S m out m' out') (c : Went S m' out' m'' out'') : Went S m out m'' out'' :=
 ⟨fun n h => c.keep n (a.keep n h), c.val, c.outs, fun v h => c.sub v (a.sub v h), fun n T h1 h2 => by
  rcases c.new n T h1 h2 with h3 | h3
  ·rcases a.new n T h3 h2 with h4 | h4
   ·exact .inl h4
   ·exact .inr fun v hv => c.sub v (h4 v hv)
  ·exact .inr h3⟩
/-- A row of nodes: they are gone through, one after the other. -/
def Goes (S : Store) (m : List (Nat × Nat)) (out : List Nat) (az : List Nat) (vs : List Nat) : Prop :=
 ∃ m' j, Went S m out m' (addVs out vs) ∧ ∀ k w, S.dfs (k + j) m (az ++ w) out = S.dfs k m' w (addVs out vs)
theorem Goes.list (hs : Seen S m out b) : ∀ {az : List Nat} {ts : List Ty}, az.length = ts.length → (∀ i, i < ts.length → ∀ m out, Seen S m out b → Goes S m out [az.getD i 0] (ts.getD i default).vars) → Goes S m out az (Ty.varsL ts) := by
 intro az
 induction az generalizing m out with
 | nil =>
  intro ts hl _
  cases ts with
  | nil => exact ⟨m, 0, hs.refl, fun k w => rfl⟩
  | cons t ts => simp at hl
 | cons a az ih =>
  intro ts hl h
  cases ts with
  | nil => simp at hl
  | cons t ts =>
   obtain ⟨m1, j1, w1, h1⟩ := h 0 (by simp) m out hs
   simp only [List.getD_cons_zero] at w1 h1
   obtain ⟨m2, j2, w2, h2⟩ := ih (hs.went w1) (ts := ts) (by simpa using hl) fun i hi m out hs => by
    have := h (i + 1) (by simp; omega) m out hs
    simpa using this
   refine ⟨m2, j2 + j1, ?_, fun k w => ?_⟩
   ·simp only [Ty.varsL, addVs_append]; exact w1.trans w2
   ·have h3 := h1 (k + j2) (az ++ w)
    simp only [Ty.varsL, addVs_append]
    rw [← h2 k w, ← h3, Nat.add_assoc]; rfl
theorem goes_one (hw : Wf S) (nok : ∀ n, n < S.nodes.length → (S.form n).kind = 1 → (S.form n).args = []) : ∀ (T : Ty) {a : Nat}, a < S.nodes.length → Den S a T → ∀ {m : List (Nat × Nat)} {out : List Nat}, Seen S m out T.size → Goes S m out [a] T.vars := by
 intro T
 induction T using Ty.ind with
 | h kd nm s bb az ih =>
  intro a ha d m out hs
  have hff := find_find hw ha
  have hd : Den S (S.find a) (.mk kd nm s bb az) := d.of_find hff.symm
  by_cases hseen : getN m (S.find a) = none
  ·have hput : ∀ k w, S.dfs (k + 1) m (a :: w) out = S.dfs k (putN m (S.find a) 1) ((S.form (S.find a)).args ++ w) (if (S.form (S.find a)).kind = 1 then out ++ [S.find a] else out) := fun k w => by
    simp only [Store.dfs]
    rw [if_neg (by simp [hseen])]
   have hlt := find_lt hw ha
   have hkeep : ∀ n, getN m n ≠ none → getN (putN m (S.find a) 1) n ≠ none := fun n h => seen_put h
   have hval : ∀ n, getN (putN m (S.find a) 1) n = none ∨ getN (putN m (S.find a) 1) n = some 1 := fun n => by
    rw [getN_putN]; split
    ·exact .inr rfl
    ·exact hs.val n
   have hfa : S.form (S.find a) = S.form a := form_of_find hff
   cases d with
   | var h =>
    rw [hfa] at hput
    rw [if_pos h, nok _ ha h] at hput
    have hno : S.find a ∉ out := fun h1 => hs.outs _ h1 hseen
    have hv : addVs out (Ty.vars (.mk 1 (S.find a : Nat) [] true [])) = out ++ [S.find a] := by
     simp [Ty.vars, addVs, addV, hno]
    refine ⟨putN m (S.find a) 1, 1, ⟨hkeep, hval, fun v hv1 => ?_, fun v hv1 => ?_, fun n T h1 h2 => ?_⟩, fun k w => ?_⟩
    ·rw [hv] at hv1
     rcases List.mem_append.1 hv1 with h1 | h1
     ·exact hkeep _ (hs.outs v h1)
     ·simp at h1; subst h1; rw [getN_putN, if_pos rfl]; simp
    ·rw [hv]; simp [hv1]
    ·rw [getN_putN] at h1
     split at h1
     ·rename_i he
      subst he
      right
      rw [← hd.unique h2]
      intro v hv2
      rw [hv]
      simp [Ty.vars] at hv2
      simp [hv2]
     ·exact .inl h1
    ·rw [hv]; exact hput k w
   | app h hl hargs =>
    rw [hfa, if_neg h] at hput
    have hvars : Ty.vars (.mk (S.form a).kind 0 (S.form a).name az.isEmpty az) = Ty.varsL az := by
     simp only [Ty.vars]
     rw [if_neg (by omega)]
    have hsz : ∀ t ∈ az, t.size < Ty.size (.mk (S.form a).kind 0 (S.form a).name az.isEmpty az) := fun t ht => by
     have := Ty.size_mem ht
     simp only [Ty.size]; omega
    rw [hvars]
    have hs1 : Seen S (putN m (S.find a) 1) out (Ty.sizeL az) := by
     refine ⟨hval, fun v hv => hkeep v (hs.outs v hv), fun n T h1 h2 h3 => ?_⟩
     rw [getN_putN] at h1
     split at h1
     ·rename_i he
      subst he
      rw [← hd.unique h2] at h3
      simp only [Ty.size] at h3; omega
     ·exact hs.full n T h1 h2 (by simp only [Ty.size]; omega)
    obtain ⟨m', j, g, hg⟩ := Goes.list hs1 (az := (S.form a).args) (ts := az) hl.symm fun i hi m out hs => by
     refine ih _ (getD_mem' hi) (arg_lt hw ha (by rw [← hl]; exact hi)) (hargs i hi) (hs.mono ?_)
     exact Ty.size_mem (getD_mem' hi)
    refine ⟨m', j + 1, ⟨fun n h1 => g.keep n (hkeep n h1), g.val, g.outs, g.sub, fun n T h1 h2 => ?_⟩, fun k w => ?_⟩
    ·rcases g.new n T h1 h2 with h3 | h3
     ·rw [getN_putN] at h3
      split at h3
      ·rename_i he
       subst he
       right
       rw [← hd.unique h2, hvars]
       exact fun v hv => mem_addVs.2 (.inr hv)
      ·exact .inl h3
     ·exact .inr h3
    ·rw [← hg k w, ← hput (k + j) w]; rfl
  ·have hv : addVs out (Ty.vars (.mk kd nm s bb az)) = out := addVs_mem (hs.full _ _ hseen hd (Nat.le_refl _))
   refine ⟨m, 1, by rw [hv]; exact hs.refl, fun k w => ?_⟩
   rw [hv]
   show S.dfs (k + 1) m (a :: w) out = _
   simp only [Store.dfs]
   rw [if_pos hseen]
/-- The variables of nodes that stand for types. -/
theorem dfs_den (hw : Wf S) (nok : ∀ n, n < S.nodes.length → (S.form n).kind = 1 → (S.form n).args = []) {az : List Nat} {ts : List Ty} (hl : az.length = ts.length) (ha : ∀ a ∈ az, a < S.nodes.length) (hd : ∀ i, i < ts.length → Den S (az.getD i 0) (ts.getD i default)) :
  ∃ k m', S.dfs k [] az [] = some (m', addVs [] (Ty.varsL ts)) := by
 have hs : Seen S [] [] (Ty.sizeL ts) := ⟨fun _ => .inl rfl, fun v h => by simp at h, fun n T h => absurd rfl h⟩
 obtain ⟨m', j, _, hg⟩ := Goes.list hs (az := az) (ts := ts) hl fun i hi m out hs => by
  refine goes_one hw nok _ (ha _ ?_) (hd i hi) (hs.mono (Ty.size_mem (getD_mem' hi)))
  rw [List.getD_eq_getElem?_getD, List.getElem?_eq_getElem (by omega)]; simp
 have := hg 1 []
 rw [List.append_nil] at this
 exact ⟨1 + j, m', this⟩
end
end Go.Dv.Us
/- What merging does: it ends; who is alike then. -/
namespace Go.Dv.Us
theorem find_putAll {S : Store} {i : Nat × Nat} (hw : Wf S) (ht : Two S i) : ∀ {n : Nat}, n < S.nodes.length → (S.putAll i).find n = if S.find n = i.1 then i.2 else S.find n := by
 have hw' := hw.putAll ht
 have key : ∀ (d n : Nat), maxL S.ranks - S.rank n < d → n < S.nodes.length → (S.putAll i).find n = if S.find n = i.1 then i.2 else S.find n := by
  intro d
  induction d with
  | zero => intro n h; exact absurd h (Nat.not_lt_zero _)
  | succ d ih =>
   intro n hd hn
   have hn' : n < (S.putAll i).nodes.length := by rw [putAll_nodes]; exact hn
   by_cases hu : S.up n = n
   ·rw [find_self hu]
    by_cases hi : n = i.1
    ·rw [if_pos hi]
     have h1 : (S.putAll i).up n = i.2 := by rw [putAll_up hw ht, if_pos hi]
     have h2 : (S.putAll i).up i.2 = i.2 := by rw [putAll_up hw ht, if_neg (fun h => ht.ne h.symm)]; exact ht.r2
     rw [← find_up hw' hn' (by rw [h1]; intro h; exact ht.ne (by rw [← hi, h])), h1, find_self h2]
    ·rw [if_neg hi, find_self (by rw [putAll_up hw ht, if_neg hi]; exact hu)]
   ·have hi : n ≠ i.1 := fun h => hu (by rw [h]; exact ht.r1)
    have h1 : (S.putAll i).up n = S.up n := by rw [putAll_up hw ht, if_neg hi]
    rw [← find_up hw' hn' (by rw [h1]; exact hu), h1, ih _ (by have := find_step hw hn hu; omega) (hw.up n hn), find_up hw hn hu]
 intro n hn
 exact key _ n (Nat.lt_succ_self _) hn
def Store.node (S : Store) (n : Nat) : UNode := S.nodes.getD n node0
theorem form_eq {S : Store} (n : Nat) : S.form n = S.node (S.forms.getD (S.find n) 0) := rfl
/-- Nodes that are alike, or are going to be. -/
structure Rel2 (S : Store) (w : List (Nat × Nat)) (R : Nat → Nat → Prop) : Prop where
 refl : ∀ x, R x x
 symm : ∀ x y, R x y → R y x
 trans : ∀ x y z, R x y → R y z → R x z
 same : ∀ x y, x < S.nodes.length → y < S.nodes.length → S.find x = S.find y → R x y
 work : ∀ q ∈ w, R q.1 q.2
structure Alike (S : Store) (R : Nat → Nat → Prop) (x y : Nat) : Prop where
 kind : (S.node x).kind = (S.node y).kind
 name : (S.node x).name = (S.node y).name
 len : (S.node x).args.length = (S.node y).args.length
 args : ∀ j, j < (S.node x).args.length → R ((S.node x).args.getD j 0) ((S.node y).args.getD j 0)
structure Cong (S : Store) (w : List (Nat × Nat)) : Prop where
 cong : ∀ R, Rel2 S w R → ∀ x y, x < S.nodes.length → y < S.nodes.length → S.find x = S.find y → (S.node x).kind ≠ 1 → (S.node y).kind ≠ 1 → Alike S R x y
 own : ∀ n, n < S.nodes.length → S.find (S.formN n) = S.find n
 non : ∀ n x, n < S.nodes.length → x < S.nodes.length → S.find x = S.find n → (S.node x).kind ≠ 1 → (S.form n).kind ≠ 1
section
variable {S : Store} {w w' : List (Nat × Nat)} {R : Nat → Nat → Prop}
theorem Alike.symm {x y : Nat} (h : Alike S R x y) (hR : ∀ x y, R x y → R y x) : Alike S R y x :=
 ⟨h.kind.symm, h.name.symm, h.len.symm, fun j hj => hR _ _ (h.args j (by rw [h.len]; exact hj))⟩
theorem Alike.trans {x y z : Nat} (h : Alike S R x y) (g : Alike S R y z) (hR : ∀ x y z, R x y → R y z → R x z) : Alike S R x z :=
 ⟨h.kind.trans g.kind, h.name.trans g.name, h.len.trans g.len, fun j hj => hR _ _ _ (h.args j hj) (g.args j (by rw [← h.len]; exact hj))⟩
/-- Alike in all but the store's upper rows. -/
theorem Alike.nodes {S' : Store} {x y : Nat} (h : Alike S R x y) (hn : S'.nodes = S.nodes) : Alike S' R x y := by
 have : S'.node = S.node := by funext n; unfold Store.node; rw [hn]
 refine ⟨?_, ?_, ?_, ?_⟩ <;> rw [this]
 ·exact h.kind
 ·exact h.name
 ·exact h.len
 ·exact h.args
/-- Two classes become one. -/
theorem Cong.put (hw : Wf S) (hc : Cong S w) {i : Nat × Nat} (ht : Two S i)
  (hsub : ∀ R, Rel2 (S.putAll i) w' R → (∀ q ∈ w, R q.1 q.2))
  (hforms : (S.form i.1).kind ≠ 1 → (S.form i.2).kind ≠ 1 → ∀ R, Rel2 (S.putAll i) w' R → Alike S R (S.formN i.1) (S.formN i.2)) : Cong (S.putAll i) w' := by
 have hN : (S.putAll i).nodes = S.nodes := putAll_nodes
 have hnode : (S.putAll i).node = S.node := by funext n; unfold Store.node; rw [hN]
 have hf : ∀ {n}, n < S.nodes.length → (S.putAll i).find n = if S.find n = i.1 then i.2 else S.find n := fun h => find_putAll hw ht h
 have hR2 : ∀ R, Rel2 (S.putAll i) w' R → Rel2 S w R := fun R r => ⟨r.refl, r.symm, r.trans, fun x y hx hy h => r.same x y (by rw [hN]; exact hx) (by rw [hN]; exact hy) (by rw [hf hx, hf hy, h]), hsub R r⟩
 have hr1 : S.find i.1 = i.1 := find_self ht.r1
 have hr2 : S.find i.2 = i.2 := find_self ht.r2
 have hn1 := formN_lt hw ht.l1
 have hn2 := formN_lt hw ht.l2
 have cross : ∀ R, Rel2 (S.putAll i) w' R → ∀ x y, x < S.nodes.length → y < S.nodes.length → S.find x = i.1 → S.find y = i.2 → (S.node x).kind ≠ 1 → (S.node y).kind ≠ 1 → Alike S R x y := fun R r x y hx hy hfx hfy kx ky => by
  have k1 : (S.form i.1).kind ≠ 1 := hc.non i.1 x ht.l1 hx (by rw [hfx, hr1]) kx
  have k2 : (S.form i.2).kind ≠ 1 := hc.non i.2 y ht.l2 hy (by rw [hfy, hr2]) ky
  have a1 := hc.cong R (hR2 R r) x (S.formN i.1) hx hn1 (by rw [hfx, hc.own _ ht.l1, hr1]) kx k1
  have a2 := hc.cong R (hR2 R r) (S.formN i.2) y hn2 hy (by rw [hfy, hc.own _ ht.l2, hr2]) k2 ky
  exact (a1.trans (hforms k1 k2 R r) r.trans).trans a2 r.trans
 have hform : ∀ n, n < S.nodes.length → (S.putAll i).formN n = if (S.putAll i).find n = i.2 then (if (S.form i.2).kind = 1 then S.formN i.1 else S.formN i.2) else S.formN n := fun n hn => by
  show (S.putAll i).forms.getD ((S.putAll i).find n) 0 = _
  have hg1 : S.forms.getD i.1 0 = S.formN i.1 := by unfold Store.formN; rw [hr1]
  have hg2 : S.forms.getD i.2 0 = S.formN i.2 := by unfold Store.formN; rw [hr2]
  rw [putAll_forms]
  by_cases h1 : (S.putAll i).find n = i.2
  ·rw [if_pos h1, h1]
   by_cases hk : (S.form i.2).kind = 1
   ·rw [if_pos hk, if_pos hk, getD_set (by rw [hw.lf]; exact ht.l2), if_pos rfl, hg1]
   ·rw [if_neg hk, if_neg hk, hg2]
  ·rw [if_neg h1]
   have h2 : (S.putAll i).find n = S.find n := by
    rw [hf hn] at h1 ⊢
    split at h1
    ·exact absurd rfl h1
    ·rename_i h3; rw [if_neg h3]
   rw [h2]
   by_cases hk : (S.form i.2).kind = 1
   ·rw [if_pos hk, getD_set (by rw [hw.lf]; exact ht.l2), if_neg (by rw [← h2]; exact h1)]; rfl
   ·rw [if_neg hk]; rfl
 refine ⟨fun R r x y hx hy he kx ky => ?_, fun n hn => ?_, fun n x hn hx he kx => ?_⟩
 ·rw [hN] at hx hy
  rw [hnode] at kx ky
  refine Alike.nodes ?_ hN
  rw [hf hx, hf hy] at he
  by_cases h1 : S.find x = i.1
  ·by_cases h2 : S.find y = i.1
   ·exact hc.cong R (hR2 R r) x y hx hy (by rw [h1, h2]) kx ky
   ·rw [if_pos h1, if_neg h2] at he
    exact cross R r x y hx hy h1 he.symm kx ky
  ·by_cases h2 : S.find y = i.1
   ·rw [if_neg h1, if_pos h2] at he
    exact (cross R r y x hy hx h2 he ky kx).symm r.symm
   ·rw [if_neg h1, if_neg h2] at he
    exact hc.cong R (hR2 R r) x y hx hy he kx ky
 ·rw [hN] at hn
  rw [hform n hn]
  by_cases h1 : (S.putAll i).find n = i.2
  ·rw [if_pos h1, h1]
   split
   ·rw [hf hn1, hc.own _ ht.l1, hr1, if_pos rfl]
   ·rw [hf hn2, hc.own _ ht.l2, hr2]; split <;> rfl
  ·rw [if_neg h1]
   have h2 := formN_lt hw hn
   rw [hf h2, hf hn, hc.own n hn]
 ·rw [hN] at hn hx
  rw [hnode] at kx
  have hff : (S.putAll i).form n = S.node ((S.putAll i).formN n) := by
   show (S.putAll i).node ((S.putAll i).formN n) = _
   rw [hnode]
  rw [hff, hform n hn]
  by_cases h1 : (S.putAll i).find n = i.2
  ·rw [if_pos h1]
   rw [h1, hf hx] at he
   split
   ·rename_i hk
    have hx1 : S.find x = i.1 := by
     by_cases h2 : S.find x = i.1
     ·exact h2
     ·rw [if_neg h2] at he
      exact absurd hk (hc.non i.2 x ht.l2 hx (by rw [he, hr2]) kx)
    exact hc.non i.1 x ht.l1 hx (by rw [hx1, hr1]) kx
   ·rename_i hk; exact hk
  ·rw [if_neg h1]
   refine hc.non n x hn hx ?_ kx
   rw [hf hn] at h1 he
   rw [hf hx] at he
   by_cases h2 : S.find n = i.1
   ·rw [if_pos h2] at h1; exact absurd rfl h1
   ·rw [if_neg h2] at he h1
    by_cases h3 : S.find x = i.1
    ·rw [if_pos h3] at he; exact absurd he.symm h1
    ·rw [if_neg h3] at he; exact he
end
/-! ### Merging -/
def Store.free (S : Store) : Prop := ∀ n, n < S.nodes.length → S.up n = n ∧ S.forms.getD n 0 = n
theorem Cong.of_free {S : Store} (h : S.free) : Cong S [] := by
 have hf : ∀ n, n < S.nodes.length → S.find n = n := fun n hn => find_self (h n hn).1
 have hF : ∀ n, n < S.nodes.length → S.formN n = n := fun n hn => by unfold Store.formN; rw [hf n hn]; exact (h n hn).2
 refine ⟨fun R r x y hx hy he _ _ => ?_, fun n hn => by rw [hF n hn], fun n x hn hx he kx => ?_⟩
 ·rw [hf x hx, hf y hy] at he
  subst he
  exact ⟨rfl, rfl, rfl, fun j _ => r.refl _⟩
 ·rw [hf x hx, hf n hn] at he
  subst he
  show (S.node (S.formN x)).kind ≠ 1
  rw [hF x hx]; exact kx
theorem Cong.more {S : Store} {w w' : List (Nat × Nat)} (h : Cong S w) (hw : ∀ R, Rel2 S w' R → ∀ q ∈ w, R q.1 q.2) : Cong S w' :=
 ⟨fun R r => h.cong R ⟨r.refl, r.symm, r.trans, r.same, hw R r⟩, h.own, h.non⟩
/-- What one step of merging does, where it goes on. -/
inductive MStep (S : Store) (a b : Nat) : Store → List (Nat × Nat) → Prop
 | same (h : S.find a = S.find b) : MStep S a b S []
 | var (h : S.find a ≠ S.find b) (hk : (S.form (S.find a)).kind = 1 ∨ (S.form (S.find b)).kind = 1) : MStep S a b (S.put (S.find a) (S.find b)) []
 | app (h : S.find a ≠ S.find b) (h1 : (S.form (S.find a)).kind ≠ 1) (h2 : (S.form (S.find b)).kind ≠ 1) (hk : (S.form (S.find a)).kind = (S.form (S.find b)).kind) (hn : (S.form (S.find a)).name = (S.form (S.find b)).name)
   (hl : (S.form (S.find a)).args.length = (S.form (S.find b)).args.length) : MStep S a b (S.put (S.find a) (S.find b)) ((S.form (S.find a)).args.zip (S.form (S.find b)).args).reverse
theorem mergeF_cases (S : Store) (a b : Nat) (st : List UStep) (w : List (Nat × Nat)) : (∀ k, Store.mergeF true (k + 1) S st ((a, b) :: w) = some (S, st, false)) ∨
  ∃ S' st' w', MStep S a b S' w' ∧ ∀ k, Store.mergeF true (k + 1) S st ((a, b) :: w) = Store.mergeF true k S' st' (w' ++ w) := by
 by_cases h : S.find a = S.find b
 ·exact .inr ⟨S, st, [], .same h, fun k => by simp only [Store.mergeF, if_pos h, List.nil_append]⟩
 ·by_cases hk : (S.form (S.find a)).kind = 1 ∨ (S.form (S.find b)).kind = 1
  ·exact .inr ⟨_, st ++ [S.putStep (S.find a) (S.find b)], [], .var h hk, fun k => by simp only [Store.mergeF, if_neg h, if_pos hk, if_true, List.nil_append]⟩
  ·by_cases hd : (S.form (S.find a)).kind ≠ (S.form (S.find b)).kind ∨ (S.form (S.find a)).name ≠ (S.form (S.find b)).name ∨ (S.form (S.find a)).args.length ≠ (S.form (S.find b)).args.length
   ·exact .inl fun k => by simp only [Store.mergeF, if_neg h, if_neg hk, if_pos hd]
   ·refine .inr ⟨_, st ++ [S.putStep (S.find a) (S.find b)], _, .app h (fun h1 => hk (.inl h1)) (fun h1 => hk (.inr h1)) ?_ ?_ ?_, fun k => by simp only [Store.mergeF, if_neg h, if_neg hk, if_neg hd]⟩
    ·exact Classical.byContradiction fun h1 => hd (.inl h1)
    ·exact Classical.byContradiction fun h1 => hd (.inr (.inl h1))
    ·exact Classical.byContradiction fun h1 => hd (.inr (.inr h1))
section
variable {S S' : Store} {a b : Nat} {w w' : List (Nat × Nat)}
theorem MStep.wf (hw : Wf S) (ha : a < S.nodes.length) (hb : b < S.nodes.length) (h : MStep S a b S' w') :
  Wf S' ∧ S'.nodes = S.nodes ∧ (∀ q ∈ w', q.1 < S.nodes.length ∧ q.2 < S.nodes.length) ∧ S'.roots * 4097 + w'.length < S.roots * 4097 + 1 := by
 have hput : S.find a ≠ S.find b → Wf (S.put (S.find a) (S.find b)) ∧ (S.put (S.find a) (S.find b)).nodes = S.nodes ∧ S.roots = (S.put (S.find a) (S.find b)).roots + 1 := fun h =>
  ⟨hw.put (find_lt hw ha) (find_lt hw hb) h (find_root hw ha) (find_root hw hb), Store.put_nodes, putAll_roots hw (two_which (find_lt hw ha) (find_lt hw hb) h (find_root hw ha) (find_root hw hb))⟩
 cases h with
 | same h => exact ⟨hw, rfl, fun q hq => by simp at hq, by simp⟩
 | var h _ =>
  obtain ⟨h1, h2, h3⟩ := hput h
  exact ⟨h1, h2, fun q hq => by simp at hq, by rw [h3]; simp only [List.length_nil]; omega⟩
 | app h _ _ _ _ _ =>
  obtain ⟨h1, h2, h3⟩ := hput h
  refine ⟨h1, h2, fun q hq => ?_, ?_⟩
  ·have h4 := List.of_mem_zip (List.mem_reverse.1 hq)
   exact ⟨hw.form_args (find_lt hw ha) _ h4.1, hw.form_args (find_lt hw hb) _ h4.2⟩
  ·have := hw.form_len (find_lt hw ha)
   rw [h3]
   simp only [List.length_reverse, List.length_zip]
   omega
theorem which_or (S : Store) (x y : Nat) : S.which x y = (x, y) ∨ S.which x y = (y, x) := by
 unfold Store.which
 split
 ·exact .inr rfl
 ·exact .inl rfl
/-- Who was alike stays so; the two are alike now, or will be. -/
theorem MStep.same_find (hw : Wf S) (ha : a < S.nodes.length) (hb : b < S.nodes.length) (h : MStep S a b S' w') :
  (∀ x y, x < S.nodes.length → y < S.nodes.length → S.find x = S.find y → S'.find x = S'.find y) ∧ S'.find a = S'.find b := by
 have hput : S.find a ≠ S.find b → (∀ x y, x < S.nodes.length → y < S.nodes.length → S.find x = S.find y → (S.put (S.find a) (S.find b)).find x = (S.put (S.find a) (S.find b)).find y) ∧ (S.put (S.find a) (S.find b)).find a = (S.put (S.find a) (S.find b)).find b := fun h => by
  have ht := two_which (find_lt hw ha) (find_lt hw hb) h (find_root hw ha) (find_root hw hb)
  have hf : ∀ {n}, n < S.nodes.length → (S.put (S.find a) (S.find b)).find n = if S.find n = (S.which (S.find a) (S.find b)).1 then (S.which (S.find a) (S.find b)).2 else S.find n := fun hn => find_putAll hw ht hn
  refine ⟨fun x y hx hy he => by rw [hf hx, hf hy, he], ?_⟩
  rw [hf ha, hf hb]
  rcases which_or S (S.find a) (S.find b) with h1 | h1 <;> rw [h1] <;> simp only
  ·rw [if_pos trivial, if_neg (show ¬ S.find b = S.find a from fun h2 => h h2.symm)]
  ·rw [if_neg h]; simp
 cases h with
 | same h => exact ⟨fun _ _ _ _ h => h, h⟩
 | var h _ => exact hput h
 | app h _ _ _ _ _ => exact hput h
theorem MStep.cong (hw : Wf S) (ha : a < S.nodes.length) (hb : b < S.nodes.length) (hc : Cong S ((a, b) :: w)) (h : MStep S a b S' w') : Cong S' (w' ++ w) := by
 have hs := h.same_find hw ha hb
 have hn := (h.wf hw ha hb).2.1
 have hsub : ∀ R, Rel2 S' (w' ++ w) R → ∀ q ∈ (a, b) :: w, R q.1 q.2 := fun R r q hq => by
  rcases List.mem_cons.1 hq with h1 | h1
  ·subst h1; exact r.same _ _ (by rw [hn]; exact ha) (by rw [hn]; exact hb) hs.2
  ·exact r.work q (List.mem_append.2 (.inr h1))
 cases h with
 | same h => exact hc.more hsub
 | var h hk =>
  have ht := two_which (find_lt hw ha) (find_lt hw hb) h (find_root hw ha) (find_root hw hb)
  refine Cong.put hw hc ht hsub fun k1 k2 => ?_
  exfalso
  rcases which_or S (S.find a) (S.find b) with h1 | h1 <;> rw [h1] at k1 k2 <;> simp only at k1 k2 <;> rcases hk with hk | hk
  ·exact k1 hk
  ·exact k2 hk
  ·exact k2 hk
  ·exact k1 hk
 | app h h1 h2 hk hnm hl =>
  have ht := two_which (find_lt hw ha) (find_lt hw hb) h (find_root hw ha) (find_root hw hb)
  have base : ∀ R, Rel2 (S.put (S.find a) (S.find b)) (((S.form (S.find a)).args.zip (S.form (S.find b)).args).reverse ++ w) R → Alike S R (S.formN (S.find a)) (S.formN (S.find b)) := fun R r => by
   refine ⟨hk, hnm, hl, fun j hj => ?_⟩
   have hj1 : j < (S.form (S.find a)).args.length := hj
   have hj2 : j < (S.form (S.find b)).args.length := by rw [← hl]; exact hj1
   have : ((S.form (S.find a)).args.getD j 0, (S.form (S.find b)).args.getD j 0) ∈ ((S.form (S.find a)).args.zip (S.form (S.find b)).args).reverse ++ w := by
    refine List.mem_append.2 (.inl (List.mem_reverse.2 ?_))
    have h3 : ((S.form (S.find a)).args.zip (S.form (S.find b)).args)[j]? = some ((S.form (S.find a)).args.getD j 0, (S.form (S.find b)).args.getD j 0) := by
     rw [List.getElem?_zip_eq_some]
     simp only [List.getD_eq_getElem?_getD, List.getElem?_eq_getElem hj1, List.getElem?_eq_getElem hj2, Option.getD_some, and_self]
    exact List.mem_of_getElem? h3
   exact r.work _ this
  refine Cong.put hw hc ht hsub fun k1 k2 R r => ?_
  rcases which_or S (S.find a) (S.find b) with h3 | h3 <;> rw [h3] <;> simp only
  ·exact base R r
  ·exact (base R r).symm r.symm
end
/-- Behind a merging that went well. -/
structure MergedP (S : Store) (w : List (Nat × Nat)) (S' : Store) : Prop where
 wf : Wf S'
 nodes : S'.nodes = S.nodes
 cong : Cong S' []
 keep : ∀ x y, x < S.nodes.length → y < S.nodes.length → S.find x = S.find y → S'.find x = S'.find y
 work : ∀ q ∈ w, S'.find q.1 = S'.find q.2
theorem merged : ∀ {k : Nat} {S : Store} {st : List UStep} {w : List (Nat × Nat)} {S' : Store} {st' : List UStep}, Wf S → Cong S w → (∀ q ∈ w, q.1 < S.nodes.length ∧ q.2 < S.nodes.length) → Store.mergeF true k S st w = some (S', st', true) → MergedP S w S' := by
 intro k
 induction k with
 | zero => intro S st w S' st' _ _ _ h; cases h
 | succ k ih =>
  intro S st w S' st' hw hc hq h
  cases w with
  | nil =>
   simp only [Store.mergeF, Option.some.injEq, Prod.mk.injEq] at h
   obtain ⟨rfl, _, _⟩ := h
   exact ⟨hw, rfl, hc, fun _ _ _ _ h => h, fun q hq => by simp at hq⟩
  | cons q w =>
   obtain ⟨a, b⟩ := q
   obtain ⟨ha, hb⟩ := hq (a, b) (by simp)
   simp only at ha hb
   rcases mergeF_cases S a b st w with h1 | ⟨S1, st1, w1, hs, h1⟩
   ·rw [h1 k] at h; cases h
   ·rw [h1 k] at h
    obtain ⟨w2, n2, q2, _⟩ := hs.wf hw ha hb
    obtain ⟨s1, s2⟩ := hs.same_find hw ha hb
    have M := ih w2 (hs.cong hw ha hb hc) (fun q h3 => by
     rw [n2]
     rcases List.mem_append.1 h3 with h4 | h4
     ·exact q2 q h4
     ·exact hq q (by simp [h4])) h
    refine ⟨M.wf, M.nodes.trans n2, M.cong, fun x y hx hy he => M.keep x y (by rw [n2]; exact hx) (by rw [n2]; exact hy) (s1 x y hx hy he), fun q h3 => ?_⟩
    rcases List.mem_cons.1 h3 with h4 | h4
    ·subst h4; exact M.keep _ _ (by rw [n2]; exact ha) (by rw [n2]; exact hb) s2
    ·exact M.work q (List.mem_append.2 (.inr h4))
theorem merge_some : ∀ (k : Nat) {S : Store} {st : List UStep} {w : List (Nat × Nat)}, Wf S → (∀ q ∈ w, q.1 < S.nodes.length ∧ q.2 < S.nodes.length) → S.roots * 4097 + w.length < k → ∃ r, Store.mergeF true k S st w = some r := by
 intro k
 induction k with
 | zero => intro S st w _ _ h; exact absurd h (Nat.not_lt_zero _)
 | succ k ih =>
  intro S st w hw hq h
  cases w with
  | nil => exact ⟨_, rfl⟩
  | cons q w =>
   obtain ⟨a, b⟩ := q
   obtain ⟨ha, hb⟩ := hq (a, b) (by simp)
   simp only at ha hb
   rcases mergeF_cases S a b st w with h1 | ⟨S1, st1, w1, hs, h1⟩
   ·exact ⟨_, h1 k⟩
   ·rw [h1 k]
    obtain ⟨w2, n2, q2, l2⟩ := hs.wf hw ha hb
    refine ih w2 (fun q h3 => ?_) ?_
    ·rw [n2]
     rcases List.mem_append.1 h3 with h4 | h4
     ·exact q2 q h4
     ·exact hq q (by simp [h4])
    ·simp only [List.length_cons] at h
     rw [List.length_append]
     have h5 : S.roots * 4097 + w.length + 1 ≤ k := by rw [Nat.add_assoc]; exact Nat.le_of_lt_succ h
     have h6 := Nat.add_lt_add_right l2 w.length
     rw [Nat.add_assoc, Nat.add_right_comm] at h6
     exact Nat.lt_of_lt_of_le h6 h5
end Go.Dv.Us
/- The same store behind one more variable. -/
namespace Go.Dv.Us
def UNode.sh (x : UNode) : UNode := { x with args := x.args.map (· + 1) }
def Store.sh (S : Store) : Store := ⟨varN :: S.nodes.map UNode.sh, 0 :: S.above.map (· + 1), 0 :: S.ranks, 0 :: S.forms.map (· + 1)⟩
def UStep.sh (d : UStep) : UStep := ⟨d.under + 1, d.over + 1, d.form + 1, d.rank⟩
def shp (q : Nat × Nat) : Nat × Nat := (q.1 + 1, q.2 + 1)
/-- Other keys. -/
def shk (m : List (Nat × Nat)) : List (Nat × Nat) := m.map fun q => (q.1 + 1, q.2)
/-- Other values. -/
def shv (m : List (Nat × Nat)) : List (Nat × Nat) := m.map fun q => (q.1, q.2 + 1)
theorem getD_succ {l : List Nat} {n : Nat} (h : n < l.length) : (l.map (· + 1)).getD n 0 = l.getD n 0 + 1 := by
 simp [List.getD_eq_getElem?_getD, h]
theorem set_succ {l : List Nat} {n x : Nat} : (l.map (· + 1)).set n (x + 1) = (l.set n x).map (· + 1) := by
 rw [List.map_set]
section
variable {S : Store}
theorem sh_len : S.sh.nodes.length = S.nodes.length + 1 := by simp [Store.sh]
theorem sh_up (hw : Wf S) {n : Nat} (h : n < S.nodes.length) : S.sh.up (n + 1) = S.up n + 1 := by
 show (0 :: S.above.map (· + 1)).getD (n + 1) 0 = _
 rw [List.getD_cons_succ, getD_succ (by rw [hw.la]; exact h)]; rfl
theorem sh_up0 : S.sh.up 0 = 0 := rfl
theorem sh_findF (hw : Wf S) : ∀ (k n : Nat), n < S.nodes.length → S.sh.findF k (n + 1) = S.findF k n + 1
 | 0, _, _ => rfl
 | k + 1, n, h => by
  simp only [Store.findF, sh_up hw h]
  by_cases hu : S.up n = n
  ·rw [if_pos hu, if_pos (by omega)]
  ·rw [if_neg hu, if_neg (by omega)]
   exact sh_findF hw k _ (hw.up n h)
theorem sh_max : maxL S.sh.ranks = maxL S.ranks := by simp [maxL, Store.sh]
theorem sh_find (hw : Wf S) {n : Nat} (h : n < S.nodes.length) : S.sh.find (n + 1) = S.find n + 1 := by
 unfold Store.find; rw [sh_max]; exact sh_findF hw _ n h
theorem sh_find0 : S.sh.find 0 = 0 := find_self sh_up0
theorem sh_formN (hw : Wf S) {n : Nat} (h : n < S.nodes.length) : S.sh.formN (n + 1) = S.formN n + 1 := by
 unfold Store.formN
 rw [sh_find hw h]
 show (0 :: S.forms.map (· + 1)).getD (_ + 1) 0 = _
 rw [List.getD_cons_succ, getD_succ (by rw [hw.lf]; exact find_lt hw h)]
theorem sh_node {n : Nat} (h : n < S.nodes.length) : S.sh.node (n + 1) = (S.node n).sh := by
 show (varN :: S.nodes.map UNode.sh).getD (n + 1) node0 = _
 unfold Store.node
 simp [List.getD_eq_getElem?_getD, h]
theorem sh_form (hw : Wf S) {n : Nat} (h : n < S.nodes.length) : S.sh.form (n + 1) = (S.form n).sh := by
 show S.sh.node (S.sh.formN (n + 1)) = _
 rw [sh_formN hw h, sh_node (formN_lt hw h)]; rfl
theorem sh_form0 : S.sh.form 0 = varN := by
 show S.sh.node (S.sh.formN 0) = _
 unfold Store.formN
 rw [sh_find0]; rfl
theorem sh_rank {n : Nat} : S.sh.rank (n + 1) = S.rank n := by
 show (0 :: S.ranks).getD (n + 1) 0 = _
 rw [List.getD_cons_succ]; rfl
theorem sh_add (hw : Wf S) (x : UNode) : (S.add x).sh = S.sh.add x.sh := by
 simp [Store.add, Store.sh]
theorem sh_which (x y : Nat) : S.sh.which (x + 1) (y + 1) = shp (S.which x y) := by
 unfold Store.which
 rw [sh_rank, sh_rank]
 split <;> rfl
theorem sh_putAll (hw : Wf S) {i : Nat × Nat} (h1 : i.1 < S.nodes.length) (h2 : i.2 < S.nodes.length) : S.sh.putAll (shp i) = (S.putAll i).sh := by
 obtain ⟨a, b⟩ := i
 simp only at h1 h2
 have e1 : S.sh.putAll (shp (a, b)) = ⟨(S.sh.putAll (shp (a, b))).nodes, (S.sh.putAll (shp (a, b))).above, (S.sh.putAll (shp (a, b))).ranks, (S.sh.putAll (shp (a, b))).forms⟩ := rfl
 have e2 : (S.putAll (a, b)).sh = ⟨varN :: (S.putAll (a, b)).nodes.map UNode.sh, 0 :: (S.putAll (a, b)).above.map (· + 1), 0 :: (S.putAll (a, b)).ranks, 0 :: (S.putAll (a, b)).forms.map (· + 1)⟩ := rfl
 rw [e1, e2, putAll_nodes, putAll_above, putAll_ranks, putAll_forms, putAll_nodes, putAll_above, putAll_ranks, putAll_forms]
 have hk : (S.sh.form (b + 1)).kind = (S.form b).kind := by rw [sh_form hw h2]; rfl
 simp only [shp, sh_rank, hk]
 congr 1
 ·show (0 :: S.above.map (· + 1)).set (a + 1) (b + 1) = _
  rw [List.set_cons_succ, set_succ]
 ·by_cases h : S.rank a = S.rank b
  ·rw [if_pos h, if_pos h]; rfl
  ·rw [if_neg h, if_neg h]; rfl
 ·by_cases h : (S.form b).kind = 1
  ·rw [if_pos h, if_pos h]
   show (0 :: S.forms.map (· + 1)).set (b + 1) ((0 :: S.forms.map (· + 1)).getD (a + 1) 0) = _
   rw [List.getD_cons_succ, getD_succ (by rw [hw.lf]; exact h1), List.set_cons_succ, set_succ]
  ·rw [if_neg h, if_neg h]; rfl
theorem sh_put (hw : Wf S) {x y : Nat} (hx : x < S.nodes.length) (hy : y < S.nodes.length) : S.sh.put (x + 1) (y + 1) = (S.put x y).sh := by
 show S.sh.putAll (S.sh.which (x + 1) (y + 1)) = _
 rw [sh_which]
 obtain ⟨h1, h2⟩ := which_lt (S := S) hx hy
 exact sh_putAll hw h1 h2
theorem sh_putStep (hw : Wf S) {x y : Nat} (hx : x < S.nodes.length) (hy : y < S.nodes.length) : S.sh.putStep (x + 1) (y + 1) = (S.putStep x y).sh := by
 show S.sh.stepOf (S.sh.which (x + 1) (y + 1)) = (S.stepOf (S.which x y)).sh
 rw [sh_which]
 obtain ⟨h1, h2⟩ := which_lt (S := S) hx hy
 generalize S.which x y = i at h1 h2
 obtain ⟨a, b⟩ := i
 simp only at h1 h2
 simp only [Store.stepOf, shp, UStep.sh, sh_rank]
 congr 1
 show (0 :: S.forms.map (· + 1)).getD (b + 1) 0 = _
 rw [List.getD_cons_succ, getD_succ (by rw [hw.lf]; exact h2)]
end
theorem zip_sh : ∀ (l l' : List Nat), (l.map (· + 1)).zip (l'.map (· + 1)) = (l.zip l').map shp
 | [], _ => by simp
 | _ :: _, [] => by simp
 | a :: l, b :: l' => by simp only [List.map_cons, List.zip_cons_cons, zip_sh l l']; rfl
theorem sh_mergeF {free : Bool} : ∀ (k : Nat) {S : Store} {st : List UStep} {w : List (Nat × Nat)}, Wf S → (∀ q ∈ w, q.1 < S.nodes.length ∧ q.2 < S.nodes.length) →
  Store.mergeF free k S.sh (st.map UStep.sh) (w.map shp) = (Store.mergeF free k S st w).map fun r => (r.1.sh, r.2.1.map UStep.sh, r.2.2) := by
 intro k
 induction k with
 | zero => intro S st w _ _; rfl
 | succ k ih =>
  intro S st w hw hq
  cases w with
  | nil => rfl
  | cons q w =>
   obtain ⟨a, b⟩ := q
   obtain ⟨ha, hb⟩ := hq (a, b) (by simp)
   simp only at ha hb
   have hq' : ∀ q ∈ w, q.1 < S.nodes.length ∧ q.2 < S.nodes.length := fun q h => hq q (by simp [h])
   have hx := find_lt hw ha
   have hy := find_lt hw hb
   simp only [List.map_cons, shp, Store.mergeF, sh_find hw ha, sh_find hw hb, sh_form hw hx, sh_form hw hy]
   by_cases h : S.find a = S.find b
   ·rw [if_pos h, if_pos (by omega)]; exact ih hw hq'
   ·rw [if_neg h, if_neg (by omega)]
    have hw2 := hw.put hx hy h (find_root hw ha) (find_root hw hb)
    have put : ∀ w', (∀ q ∈ w', q.1 < S.nodes.length ∧ q.2 < S.nodes.length) → Store.mergeF free k (S.sh.put (S.find a + 1) (S.find b + 1)) (st.map UStep.sh ++ [S.sh.putStep (S.find a + 1) (S.find b + 1)]) (w'.map shp) =
      (Store.mergeF free k (S.put (S.find a) (S.find b)) (st ++ [S.putStep (S.find a) (S.find b)]) w').map fun r => (r.1.sh, r.2.1.map UStep.sh, r.2.2) := fun w' h' => by
     rw [sh_put hw hx hy, sh_putStep hw hx hy]
     have := ih (st := st ++ [S.putStep (S.find a) (S.find b)]) (w := w') hw2 (by rw [Store.put_nodes]; exact h')
     rw [List.map_append] at this
     exact this
    by_cases hk : (S.form (S.find a)).kind = 1 ∨ (S.form (S.find b)).kind = 1
    ·rw [if_pos hk, if_pos (show (S.form (S.find a)).sh.kind = 1 ∨ (S.form (S.find b)).sh.kind = 1 from hk)]
     cases free with
     | true => exact put w hq'
     | false => rfl
    ·rw [if_neg hk, if_neg (show ¬((S.form (S.find a)).sh.kind = 1 ∨ (S.form (S.find b)).sh.kind = 1) from hk)]
     have hl : ∀ x : UNode, x.sh.args.length = x.args.length := fun x => by simp [UNode.sh]
     rw [hl, hl]
     by_cases hd : (S.form (S.find a)).kind ≠ (S.form (S.find b)).kind ∨ (S.form (S.find a)).name ≠ (S.form (S.find b)).name ∨ (S.form (S.find a)).args.length ≠ (S.form (S.find b)).args.length
     ·rw [if_pos hd, if_pos (show (S.form (S.find a)).sh.kind ≠ (S.form (S.find b)).sh.kind ∨ (S.form (S.find a)).sh.name ≠ (S.form (S.find b)).sh.name ∨ (S.form (S.find a)).args.length ≠ (S.form (S.find b)).args.length from hd)]
      rfl
     ·rw [if_neg hd, if_neg (show ¬((S.form (S.find a)).sh.kind ≠ (S.form (S.find b)).sh.kind ∨ (S.form (S.find a)).sh.name ≠ (S.form (S.find b)).sh.name ∨ (S.form (S.find a)).args.length ≠ (S.form (S.find b)).args.length) from hd)]
      have hz : ((S.form (S.find a)).sh.args.zip (S.form (S.find b)).sh.args).reverse ++ w.map shp = (((S.form (S.find a)).args.zip (S.form (S.find b)).args).reverse ++ w).map shp := by
       rw [List.map_append, List.map_reverse, ← zip_sh]; rfl
      have := put (((S.form (S.find a)).args.zip (S.form (S.find b)).args).reverse ++ w) (fun q h3 => by
       rcases List.mem_append.1 h3 with h4 | h4
       ·have h5 := List.of_mem_zip (List.mem_reverse.1 h4)
        exact ⟨hw.form_args hx _ h5.1, hw.form_args hy _ h5.2⟩
       ·exact hq' q h4)
      rw [← hz] at this
      exact this
theorem getN_shk {m : List (Nat × Nat)} {n : Nat} : getN (shk m) (n + 1) = getN m n := by
 induction m with
 | nil => rfl
 | cons q m ih =>
  obtain ⟨k, v⟩ := q
  simp only [shk, List.map_cons, getN] at ih ⊢
  by_cases h : k = n
  ·rw [if_pos h, if_pos (by omega)]
  ·rw [if_neg h, if_neg (by omega)]; exact ih
theorem putN_shk {m : List (Nat × Nat)} {n x : Nat} : putN (shk m) (n + 1) x = shk (putN m n x) := by
 induction m with
 | nil => rfl
 | cons q m ih =>
  obtain ⟨k, v⟩ := q
  simp only [shk, List.map_cons, putN] at ih ⊢
  by_cases h : k = n
  ·rw [if_pos h, if_pos (by omega)]; rfl
  ·rw [if_neg h, if_neg (by omega), ih]; rfl
theorem sh_cycF {S : Store} (hw : Wf S) : ∀ (k : Nat) {m w : List (Nat × Nat)}, (∀ q ∈ w, q.1 < S.nodes.length ∧ q.2 ≤ (S.form q.1).args.length) → Store.cycF S.sh k (shk m) (w.map fun q => (q.1 + 1, q.2)) = Store.cycF S k m w := by
 intro k
 induction k with
 | zero => intro m w _; rfl
 | succ k ih =>
  intro m w hq
  cases w with
  | nil => rfl
  | cons q w =>
   obtain ⟨n, i⟩ := q
   obtain ⟨hn, hi⟩ := hq (n, i) (by simp)
   simp only at hn hi
   have hl : (S.form n).sh.args.length = (S.form n).args.length := by simp [UNode.sh]
   have hq' : ∀ q ∈ w, q.1 < S.nodes.length ∧ q.2 ≤ (S.form q.1).args.length := fun q h => hq q (by simp [h])
   simp only [List.map_cons, Store.cycF, sh_form hw hn, hl]
   by_cases h : i = (S.form n).args.length
   ·rw [if_pos h, if_pos h, putN_shk]; exact ih hq'
   ·have hlt : i < (S.form n).args.length := by omega
    have hal := hw.form_args hn ((S.form n).args.getD i 0) (by rw [List.getD_eq_getElem?_getD, List.getElem?_eq_getElem hlt]; simp)
    have ha : (S.form n).sh.args.getD i 0 = (S.form n).args.getD i 0 + 1 := getD_succ hlt
    have hfl := find_lt hw hal
    rw [if_neg h, if_neg h, ha, sh_find hw hal, getN_shk, putN_shk]
    have hq2 : ∀ q ∈ (n, i + 1) :: w, q.1 < S.nodes.length ∧ q.2 ≤ (S.form q.1).args.length := fun q h3 => by
     rcases List.mem_cons.1 h3 with h4 | h4
     ·subst h4; exact ⟨hn, hlt⟩
     ·exact hq' q h4
    by_cases h1 : (getN m (S.find ((S.form n).args.getD i 0))).getD 0 = 1
    ·rw [if_pos h1, if_pos h1]
    ·rw [if_neg h1, if_neg h1]
     by_cases h2 : (getN m (S.find ((S.form n).args.getD i 0))).getD 0 = 0
     ·rw [if_pos h2, if_pos h2]
      exact ih (w := (S.find ((S.form n).args.getD i 0), 0) :: (n, i + 1) :: w) fun q h3 => by
       rcases List.mem_cons.1 h3 with h4 | h4
       ·subst h4; exact ⟨hfl, Nat.zero_le _⟩
       ·exact hq2 q h4
     ·rw [if_neg h2, if_neg h2]
      exact ih (w := (n, i + 1) :: w) hq2
theorem sh_cyc {S : Store} (hw : Wf S) {k n : Nat} (hn : n < S.nodes.length) : S.sh.cyc k (n + 1) = S.cyc k n := by
 unfold Store.cyc
 rw [sh_find hw hn]
 have := sh_cycF hw k (m := putN [] (S.find n) 1) (w := [(S.find n, 0)]) (fun q h => by simp at h; subst h; exact ⟨find_lt hw hn, Nat.zero_le _⟩)
 rw [← putN_shk] at this
 exact this
theorem sh_unify {S : Store} (hw : Wf S) {k a b : Nat} (ha : a < S.nodes.length) (hb : b < S.nodes.length) : S.sh.unify k (a + 1) (b + 1) = (S.unify k a b).map fun r => (r.1.sh, r.2) := by
 have h1 := sh_mergeF (free := true) k (S := S) (st := []) (w := [(a, b)]) hw (fun q h => by simp at h; subst h; exact ⟨ha, hb⟩)
 have h2 : Store.mergeF true k S.sh [] [(a + 1, b + 1)] = (Store.mergeF true k S [] [(a, b)]).map fun r => (r.1.sh, r.2.1.map UStep.sh, r.2.2) := h1
 unfold Store.unify
 rw [h2]
 cases hm : Store.mergeF true k S [] [(a, b)] with
 | none => rfl
 | some r =>
  obtain ⟨S', st, ok⟩ := r
  obtain ⟨hn, hw', _⟩ := mergeF_nodes hm hw (fun q h => by simp at h; subst h; exact ⟨ha, hb⟩) (fun d h => by simp at h)
  simp only at hn hw'
  cases ok with
  | false => rfl
  | true =>
   cases st with
   | nil => rfl
   | cons d st =>
    simp only [Option.map_some, List.map_cons]
    rw [sh_cyc hw' (by rw [hn]; exact ha)]
    cases S'.cyc k a with
    | none => rfl
    | some b => cases b <;> rfl
end Go.Dv.Us
