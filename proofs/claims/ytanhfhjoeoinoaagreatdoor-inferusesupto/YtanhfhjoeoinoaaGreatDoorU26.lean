/- A part of the proof of InferUses, second form: for every input of bulk at most 1048576 the call returns true and the arguments read as they did. Its condition: that bulk. -/
import Derived.Test.YtanhfhjoeoinoaaGreatDoorU25
/- One variable more is put under a node: what nodes stand for is the same. Types with other names for their variables. -/
namespace Go.Dv.Us
section
variable {S : Store}
theorem sh_roots (hw : Wf S) : S.sh.roots = S.roots + 1 := by
 unfold Store.roots
 rw [sh_len, List.range_succ_eq_map, List.countP_cons, List.countP_map, sh_up0]
 simp only [beq_self_eq_true, if_true]
 congr 1
 apply List.countP_congr
 intro n hn
 have hn' : n < S.nodes.length := by simpa using hn
 simp only [Function.comp, sh_up hw hn', beq_iff_eq]
 omega
theorem sh_get {n : Nat} {x : UNode} (h : S.sh.nodes[n]? = some x) : (n = 0 ∧ x = varN) ∨ ∃ m y, n = m + 1 ∧ S.nodes[m]? = some y ∧ x = y.sh := by
 cases n with
 | zero =>
  left
  have h1 : S.sh.nodes[0]? = some varN := rfl
  rw [h1] at h; cases h; exact ⟨rfl, rfl⟩
 | succ m =>
  right
  have h1 : S.sh.nodes[m + 1]? = (S.nodes.map UNode.sh)[m]? := rfl
  rw [h1, List.getElem?_map] at h
  cases hy : S.nodes[m]? with
  | none => rw [hy] at h; cases h
  | some y => rw [hy] at h; cases h; exact ⟨m, y, rfl, hy, rfl⟩
theorem Wf.sh (hw : Wf S) (hsz : S.nodes.length + 1 ≤ 2 ^ 12) : Wf S.sh where
 up := fun n hn => by
  rw [sh_len] at hn ⊢
  cases n with
  | zero => rw [sh_up0]; omega
  | succ n => rw [sh_up hw (by omega)]; have := hw.up n (by omega); omega
 rise := fun n hn h => by
  rw [sh_len] at hn
  cases n with
  | zero => exact absurd sh_up0 h
  | succ n =>
   rw [sh_up hw (by omega)] at h ⊢
   rw [sh_rank, sh_rank]
   exact hw.rise n (by omega) (by omega)
 form := fun n hn => by
  rw [sh_len] at hn ⊢
  show (0 :: S.forms.map (· + 1)).getD n 0 < _
  cases n with
  | zero => exact Nat.succ_pos _
  | succ n =>
   rw [List.getD_cons_succ, getD_succ (by rw [hw.lf]; omega)]
   have := hw.form n (by omega); omega
 args := fun n hn x hx a ha => by
  rw [sh_len]
  rcases sh_get hx with ⟨_, rfl⟩ | ⟨m, y, rfl, hy, rfl⟩
  ·simp [varN] at ha
  ·obtain ⟨b, hb, rfl⟩ := List.mem_map.1 ha
   rw [sh_len] at hn
   have := hw.args m (by omega) y hy b hb; omega
 size := by rw [sh_len]; exact hsz
 alen := fun n hn x hx => by
  rcases sh_get hx with ⟨_, rfl⟩ | ⟨m, y, rfl, hy, rfl⟩
  ·simp [varN]
  ·rw [sh_len] at hn
   simp only [UNode.sh, List.length_map]
   exact hw.alen m (by omega) y hy
 nil := fun n hn x hx hi => by
  rcases sh_get hx with ⟨_, rfl⟩ | ⟨m, y, rfl, hy, rfl⟩
  ·rfl
  ·rw [sh_len] at hn
   have := hw.nil m (by omega) y hy hi
   simp [UNode.sh, this]
 rk := fun n => by
  rw [sh_roots hw, sh_len]
  cases n with
  | zero =>
   have h := hw.rk S.nodes.length
   have : S.sh.rank 0 = 0 := rfl
   rw [this]
   omega
  | succ n => rw [sh_rank]; have := hw.rk n; omega
 la := by rw [sh_len]; simp [Store.sh, hw.la]
 lr := by rw [sh_len]; simp [Store.sh, hw.lr]
 lf := by rw [sh_len]; simp [Store.sh, hw.lf]
/-- The new variable is put under a node. -/
def Store.tie (S : Store) (r : Nat) : Store := S.sh.putAll (0, S.find r + 1)
theorem tie_two (hw : Wf S) {r : Nat} (hr : r < S.nodes.length) : Two S.sh (0, S.find r + 1) where
 l1 := by rw [sh_len]; exact Nat.succ_pos _
 l2 := by rw [sh_len]; have := find_lt hw hr; simp only; omega
 ne := by simp
 r1 := sh_up0
 r2 := by simp only; rw [sh_up hw (find_lt hw hr), find_root hw hr]
 le := Nat.zero_le _
theorem tie_find (hw : Wf S) (hsz : S.nodes.length + 1 ≤ 2 ^ 12) {r n : Nat} (hr : r < S.nodes.length) (hn : n < S.nodes.length) : (S.tie r).find (n + 1) = S.find n + 1 := by
 unfold Store.tie
 rw [find_putAll (hw.sh hsz) (tie_two hw hr) (by rw [sh_len]; omega), sh_find hw hn, if_neg (by simp)]
theorem tie_find0 (hw : Wf S) (hsz : S.nodes.length + 1 ≤ 2 ^ 12) {r : Nat} (hr : r < S.nodes.length) : (S.tie r).find 0 = S.find r + 1 := by
 unfold Store.tie
 rw [find_putAll (hw.sh hsz) (tie_two hw hr) (by rw [sh_len]; omega), sh_find0, if_pos rfl]
theorem tie_nodes {r : Nat} : (S.tie r).nodes = S.sh.nodes := putAll_nodes
theorem tie_form (hw : Wf S) (hsz : S.nodes.length + 1 ≤ 2 ^ 12) {r n : Nat} (hr : r < S.nodes.length) (hn : n < S.nodes.length) :
  ((S.form n).kind = 1 → ((S.tie r).form (n + 1)).kind = 1) ∧ ((S.form n).kind ≠ 1 → (S.tie r).form (n + 1) = (S.form n).sh) := by
 have hfl := find_lt hw hr
 have h0 : ∀ m, (S.tie r).node m = S.sh.node m := fun m => by unfold Store.node; rw [tie_nodes]
 have hkk : (S.sh.form (S.find r + 1)).kind = (S.form (S.find r)).kind := by rw [sh_form hw hfl]; rfl
 have h1 : (S.tie r).form (n + 1) = S.sh.node ((S.tie r).forms.getD (S.find n + 1) 0) := by rw [form_eq, tie_find hw hsz hr hn, h0]
 have hn1 : S.sh.node (S.sh.forms.getD (S.find n + 1) 0) = (S.form n).sh := by
  rw [← sh_form hw hn, form_eq, sh_find hw hn]
 have hff : S.form (S.find r) = S.form r := form_of_find (find_find hw hr)
 have hforms : (S.tie r).forms = if (S.sh.form (S.find r + 1)).kind = 1 then S.sh.forms.set (S.find r + 1) (S.sh.forms.getD 0 0) else S.sh.forms := putAll_forms
 rw [h1, hforms, hkk]
 by_cases hk : (S.form (S.find r)).kind = 1
 ·rw [if_pos hk, getD_set (by rw [(hw.sh hsz).lf, sh_len]; omega)]
  by_cases he : S.find n + 1 = S.find r + 1
  ·rw [if_pos he]
   have hfn : S.form n = S.form r := form_of_find (by omega)
   exact ⟨fun _ => rfl, fun h => absurd (by rw [hfn, ← hff]; exact hk) h⟩
  ·rw [if_neg he, hn1]
   exact ⟨fun h => h, fun _ => rfl⟩
 ·rw [if_neg hk, hn1]
  exact ⟨fun h => h, fun _ => rfl⟩
end
/-! ### Other names for variables -/
theorem renameL_isEmpty {f : Nat → Nat} (l : List Ty) : (Ty.renameL f l).isEmpty = l.isEmpty := by
 cases l <;> rfl
theorem Ty.vars_rename (f : Nat → Nat) : ∀ t : Ty, (t.rename f).vars = t.vars.map f := by
 intro t
 induction t using Ty.ind with
 | h k n s b az ih =>
  simp only [Ty.rename, Ty.vars]
  by_cases hk : k = 1
  ·simp [hk, Ty.vars]
  ·simp only [if_neg hk, Ty.vars]
   have key : ∀ l : List Ty, (∀ a ∈ l, (a.rename f).vars = a.vars.map f) → Ty.varsL (Ty.renameL f l) = (Ty.varsL l).map f := by
    intro l
    induction l with
    | nil => intro _; rfl
    | cons a l ih2 => intro h; simp only [Ty.renameL, Ty.varsL, List.map_append, h a (by simp), ih2 fun x hx => h x (by simp [hx])]
   exact key az ih
theorem Ty.size_rename (f : Nat → Nat) : ∀ t : Ty, (t.kind = 1 → t.args = []) → (∀ p ∈ t.pre, p.kind = 1 → p.args = []) → (t.rename f).size = t.size := by
 intro t
 induction t using Ty.ind with
 | h k n s b az ih =>
  intro h1 h2
  simp only [Ty.rename]
  by_cases hk : k = 1
  ·have : az = [] := h1 hk
   subst this
   simp [hk, Ty.size, Ty.sizeL]
  ·simp only [if_neg hk, Ty.size]
   congr 1
   have key : ∀ l : List Ty, (∀ a ∈ l, (a.rename f).size = a.size) → Ty.sizeL (Ty.renameL f l) = Ty.sizeL l := by
    intro l
    induction l with
    | nil => intro _; rfl
    | cons a l ih2 => intro h; simp only [Ty.renameL, Ty.sizeL, h a (by simp), ih2 fun x hx => h x (by simp [hx])]
   have hpre : ∀ l : List Ty, ∀ a ∈ l, ∀ p ∈ a.pre, p ∈ Ty.preL l := by
    intro l
    induction l with
    | nil => intro a ha; simp at ha
    | cons c l ih3 =>
     intro a ha p hp
     simp only [Ty.preL, List.mem_append]
     rcases List.mem_cons.1 ha with h3 | h3
     ·subst h3; exact .inl hp
     ·exact .inr (ih3 a h3 p hp)
   refine key az fun a ha => ih a ha (fun hk1 => ?_) fun p hp => h2 p (by simp only [Ty.pre, List.mem_cons]; exact .inr (hpre az a ha p hp))
   have : a ∈ a.pre := by cases a; simp [Ty.pre]
   exact h2 a (by simp only [Ty.pre, List.mem_cons]; exact .inr (hpre az a ha a this)) hk1
theorem Ty.rename_rename (f g : Nat → Nat) : ∀ t : Ty, (t.rename f).rename g = t.rename fun v => g (f v) := by
 intro t
 induction t using Ty.ind with
 | h k n s b az ih =>
  simp only [Ty.rename]
  by_cases hk : k = 1
  ·simp [hk, Ty.rename]
  ·simp only [if_neg hk, Ty.rename, renameL_isEmpty]
   congr 1
   rw [Ty.renameL_eq, Ty.renameL_eq, Ty.renameL_eq, List.map_map]
   exact List.map_congr_left fun a ha => ih a ha
theorem addVs_map {f : Nat → Nat} : ∀ {vs l : List Nat}, (∀ x, x ∈ l ∨ x ∈ vs → ∀ y, y ∈ l ∨ y ∈ vs → f x = f y → x = y) → addVs (l.map f) (vs.map f) = (addVs l vs).map f
 | [], l, _ => rfl
 | v :: vs, l, h => by
  have h1 : addV (l.map f) (f v) = (addV l v).map f := by
   unfold addV
   by_cases hv : v ∈ l
   ·rw [if_pos hv, if_pos (List.mem_map_of_mem hv)]
   ·rw [if_neg hv, if_neg (fun h2 => by
     obtain ⟨x, hx, he⟩ := List.mem_map.1 h2
     have := h x (.inl hx) v (.inr (by simp)) he
     subst this; exact hv hx), List.map_append]; rfl
  show addVs (addV (l.map f) (f v)) (vs.map f) = (addVs (addV l v) vs).map f
  rw [h1]
  refine addVs_map fun x hx y hy he => h x ?_ y ?_ he
  ·rcases hx with hx | hx
   ·rcases mem_addV.1 hx with h2 | h2
    ·exact .inl h2
    ·exact .inr (by simp [h2])
   ·exact .inr (by simp [hx])
  ·rcases hy with hy | hy
   ·rcases mem_addV.1 hy with h2 | h2
    ·exact .inl h2
    ·exact .inr (by simp [h2])
   ·exact .inr (by simp [hy])
theorem idx_map {f : Nat → Nat} : ∀ {l : List Nat} {v : Nat}, (∀ x ∈ l, f x = f v → x = v) → idx (l.map f) (f v) = idx l v
 | [], v, _ => rfl
 | a :: l, v, h => by
  have ih := idx_map (f := f) (l := l) (v := v) fun x hx => h x (by simp [hx])
  unfold idx at ih ⊢
  simp only [List.map_cons, List.idxOf_cons]
  by_cases hav : a = v
  ·subst hav; simp
  ·have : f a ≠ f v := fun h1 => hav (h a (by simp) h1)
   rw [beq_false_of_ne hav, beq_false_of_ne this, cond_false, cond_false, ih]
/-- Numbered in order, the names before don't count. -/
theorem Ty.close_rename {f : Nat → Nat} (t : Ty) (h : ∀ x ∈ t.vars, ∀ y ∈ t.vars, f x = f y → x = y) : (t.rename f).close = t.close := by
 unfold Ty.close
 rw [Ty.vars_rename, Ty.rename_rename]
 have h1 : addVs [] (t.vars.map f) = (addVs [] t.vars).map f := by
  have := addVs_map (f := f) (vs := t.vars) (l := []) (fun x hx y hy he => h x (by simpa using hx) y (by simpa using hy) he)
  simpa using this
 refine Ty.rename_congr t fun v hv => ?_
 rw [h1]
 refine idx_map fun x hx he => h x ?_ v hv he
 rcases mem_addVs.1 hx with h2 | h2
 ·simp at h2
 ·exact h2
theorem idx_inj {l : List Nat} {x y : Nat} (hx : x ∈ l) (hy : y ∈ l) (h : idx l x = idx l y) : x = y := by
 have h1 : l[l.idxOf x]? = some x := by
  have := List.getElem_idxOf (List.idxOf_lt_length_of_mem hx)
  rw [List.getElem?_eq_getElem (List.idxOf_lt_length_of_mem hx), this]
 have h2 : l[l.idxOf y]? = some y := by
  have := List.getElem_idxOf (List.idxOf_lt_length_of_mem hy)
  rw [List.getElem?_eq_getElem (List.idxOf_lt_length_of_mem hy), this]
 unfold idx at h
 rw [h, h2] at h1
 cases h1; rfl
theorem Ty.close_close (t : Ty) : t.close.close = t.close := by
 refine Ty.close_rename t fun x hx y hy h => ?_
 exact idx_inj (mem_addVs.2 (.inr hx)) (mem_addVs.2 (.inr hy)) h
/-! ### What nodes stand for, behind the tying -/
theorem den_tie {S : Store} (hw : Wf S) (hsz : S.nodes.length + 1 ≤ 2 ^ 12) {r : Nat} (hr : r < S.nodes.length) {n : Nat} {T : Ty} (d : Den S n T) : n < S.nodes.length → Den (S.tie r) (n + 1) (T.rename (· + 1)) := by
 induction d with
 | @var n h =>
  intro hn
  have := (tie_form hw hsz hr hn).1 h
  have h1 := Den.var this
  rw [tie_find hw hsz hr hn] at h1
  simp only [Ty.rename, if_true]
  exact h1
 | @app n ts h hl ha ih =>
  intro hn
  have hf := (tie_form hw hsz hr hn).2 h
  have hk : ((S.tie r).form (n + 1)).kind ≠ 1 := by rw [hf]; exact h
  have h1 := Den.app (S := S.tie r) (n := n + 1) (ts := Ty.renameL (· + 1) ts) hk (by rw [hf, Ty.renameL_eq]; simp [UNode.sh, hl]) fun i hi => by
   rw [Ty.renameL_eq, List.length_map] at hi
   have hi2 : i < (S.form n).args.length := by rw [← hl]; exact hi
   have h2 := ih i hi (arg_lt hw hn hi2)
   have h3 : (S.tie r).arg (n + 1) i = S.arg n i + 1 := by
    unfold Store.arg
    rw [hf]
    exact getD_succ hi2
   have h4 : (Ty.renameL (· + 1) ts).getD i default = (ts.getD i default).rename (· + 1) := by
    rw [Ty.renameL_eq]
    simp [List.getD_eq_getElem?_getD, hi]
   rw [h3, h4]; exact h2
  have hk2 : ((S.form n).kind : Int) ≠ 1 := by omega
  simp only [Ty.rename, if_neg hk2]
  rw [hf] at h1
  rw [renameL_isEmpty] at h1
  exact h1
theorem den_tie0 {S : Store} (hw : Wf S) (hsz : S.nodes.length + 1 ≤ 2 ^ 12) {r : Nat} (hr : r < S.nodes.length) {T : Ty} (d : Den S r T) : Den (S.tie r) 0 (T.rename (· + 1)) :=
 (den_tie hw hsz hr d hr).of_find (by rw [tie_find hw hsz hr hr, tie_find0 hw hsz hr])
/-- The second unifying, of the new variable with a node that stands for a type. -/
theorem unify_tie {S : Store} (hw : Wf S) (hsz : S.nodes.length + 1 ≤ 2 ^ 12) (nok : ∀ n, n < S.nodes.length → (S.node n).kind = 1 → (S.node n).args = []) {r k : Nat} (hr : r < S.nodes.length) {T : Ty} (d : Den S r T) (hk : 2 ^ 25 ≤ k) : S.sh.unify k 0 (r + 1) = some (S.tie r, 0) := by
 have hw' : Wf (S.tie r) := (hw.sh hsz).putAll (tie_two hw hr)
 have hc : (S.tie r).cyc k 0 = some false := by
  refine den_cyc hw' (fun n hn h1 => ?_) (by rw [tie_nodes, sh_len]; exact Nat.succ_pos _) (den_tie0 hw hsz hr d) hk
  have h2 := form_get hw' hn
  rw [tie_nodes] at h2
  rcases sh_get h2 with ⟨_, h3⟩ | ⟨m, y, _, h3, h4⟩
  ·rw [h3]; rfl
  ·rw [h4] at h1 ⊢
   have hm : m < S.nodes.length := (List.getElem?_eq_some_iff.1 h3).1
   have hy : S.node m = y := by unfold Store.node; rw [List.getD_eq_getElem?_getD, h3]; rfl
   have := nok m hm (by rw [hy]; exact h1)
   rw [hy] at this
   simp [UNode.sh, this]
 obtain ⟨k', rfl⟩ : ∃ k', k = k' + 2 := ⟨k - 2, by omega⟩
 have hm : Store.mergeF true (k' + 2) S.sh [] [(0, r + 1)] = some (S.tie r, [S.sh.putStep 0 (S.find r + 1)], true) := by
  simp only [Store.mergeF, sh_find0, sh_find hw hr, sh_form0]
  rw [if_neg (by omega), if_pos (.inl rfl), if_pos trivial]
  simp only [List.nil_append]
  congr 2
 unfold Store.unify
 rw [hm]
 simp only [hc]
end Go.Dv.Us
/- A type is made in a store; one name applied to another. -/
namespace Go.Dv.Us
mutual
/-- A type in the store; what its variables are. -/
def Store.build (S : Store) (m : List (Nat × Nat)) : Ty → Store × List (Nat × Nat) × Nat
 | .mk k n s _ az =>
  if k = 1 then match getN m n.toNat with
   | some v => (S, m, v)
   | none => (S.add varN, putN m n.toNat S.nodes.length, S.nodes.length)
  else ((Store.buildL S m az).1.add ⟨k.toNat, s, (Store.buildL S m az).2.2, false⟩, (Store.buildL S m az).2.1, (Store.buildL S m az).1.nodes.length)
def Store.buildL (S : Store) (m : List (Nat × Nat)) : List Ty → Store × List (Nat × Nat) × List Nat
 | [] => (S, m, [])
 | t :: ts => ((Store.buildL (Store.build S m t).1 (Store.build S m t).2.1 ts).1, (Store.buildL (Store.build S m t).1 (Store.build S m t).2.1 ts).2.1, (Store.build S m t).2.2 :: (Store.buildL (Store.build S m t).1 (Store.build S m t).2.1 ts).2.2)
end
/-! ### Right types -/
/-- What a part of a right type can be; K: what lex.Kind tells of a name. -/
def Ty.fits (K : List UInt8 → Int) : Ty → Bool
 | .mk k n s _ az =>
  if k = 1 then decide (0 ≤ n) && decide (n < 1073741824) && decide (s = []) && decide (az.length = 0)
  else if k = 2 then decide (n = 0) && decide (K s = 1)
  else if k = 3 then decide (n = 0) && decide (s = []) && decide (2 ≤ az.length)
  else if k = 4 then decide (n = 0) && decide (s = []) && decide (az.length = 2)
  else false
def Ty.Fit (K : List UInt8 → Int) (t : Ty) : Prop := ∀ p ∈ t.pre, p.fits K = true
theorem mem_preL {p : Ty} : ∀ {l : List Ty}, p ∈ Ty.preL l ↔ ∃ a ∈ l, p ∈ a.pre
 | [] => by simp [Ty.preL]
 | t :: l => by simp only [Ty.preL, List.mem_append, mem_preL (l := l), List.mem_cons, exists_eq_or_imp]
theorem Ty.fit_mk {K : List UInt8 → Int} {k n : Int} {s : List UInt8} {b : Bool} {az : List Ty} : Ty.Fit K (.mk k n s b az) ↔ Ty.fits K (.mk k n s b az) = true ∧ ∀ a ∈ az, a.Fit K := by
 unfold Ty.Fit
 simp only [Ty.pre, List.mem_cons, forall_eq_or_imp, mem_preL]
 refine and_congr_right fun _ => ⟨fun h a ha p hp => h p ⟨a, ha, hp⟩, fun h p hp => ?_⟩
 obtain ⟨a, ha, hp⟩ := hp
 exact h a ha p hp
inductive FitCases (K : List UInt8 → Int) : Int → Int → List UInt8 → List Ty → Prop
 | var {n} (h0 : 0 ≤ n) (h1 : n < 1073741824) : FitCases K 1 n [] []
 | con {s az} (h : K s = 1) : FitCases K 2 0 s az
 | pair {az : List Ty} (h : 2 ≤ az.length) : FitCases K 3 0 [] az
 | arrow {az : List Ty} (h : az.length = 2) : FitCases K 4 0 [] az
theorem fits_cases {K : List UInt8 → Int} {k n : Int} {s : List UInt8} {b : Bool} {az : List Ty} : Ty.fits K (.mk k n s b az) = true ↔ FitCases K k n s az := by
 constructor
 ·intro h
  simp only [Ty.fits] at h
  by_cases h1 : k = 1
  ·subst h1
   simp only [if_true, Bool.and_eq_true, decide_eq_true_eq] at h
   obtain ⟨⟨⟨h2, h3⟩, rfl⟩, h4⟩ := h
   have : az = [] := List.length_eq_zero_iff.1 h4
   subst this
   exact .var h2 h3
  ·rw [if_neg h1] at h
   by_cases h2 : k = 2
   ·subst h2
    simp only [if_true, Bool.and_eq_true, decide_eq_true_eq] at h
    obtain ⟨rfl, h3⟩ := h
    exact .con h3
   ·rw [if_neg h2] at h
    by_cases h3 : k = 3
    ·subst h3
     simp only [if_true, Bool.and_eq_true, decide_eq_true_eq] at h
     obtain ⟨⟨rfl, rfl⟩, h4⟩ := h
     exact .pair h4
    ·rw [if_neg h3] at h
     by_cases h4 : k = 4
     ·subst h4
      simp only [if_true, Bool.and_eq_true, decide_eq_true_eq] at h
      obtain ⟨⟨rfl, rfl⟩, h5⟩ := h
      exact .arrow h5
     ·rw [if_neg h4] at h; cases h
 ·intro h
  cases h <;> simp_all [Ty.fits]
/-! ### Right nodes -/
inductive NodeOk (K : List UInt8 → Int) : UNode → Prop
 | var {b} : NodeOk K ⟨1, [], [], b⟩
 | con {s az b} (h : K s = 1) : NodeOk K ⟨2, s, az, b⟩
 | pair {az : List Nat} {b} (h : 2 ≤ az.length) : NodeOk K ⟨3, [], az, b⟩
 | arrow {az : List Nat} {b} (h : az.length = 2) : NodeOk K ⟨4, [], az, b⟩
theorem NodeOk.args {K : List UInt8 → Int} {x : UNode} (h : NodeOk K x) (hk : x.kind = 1) : x.args = [] := by
 cases h <;> simp_all
theorem NodeOk.fits {K : List UInt8 → Int} {x : UNode} (h : NodeOk K x) (hk : x.kind ≠ 1) {ts : List Ty} (hl : ts.length = x.args.length) {b : Bool} : Ty.fits K (.mk x.kind 0 x.name b ts) = true := by
 rw [fits_cases]
 cases h with
 | var => exact absurd rfl hk
 | con h => exact .con h
 | pair h => exact .pair (by rw [hl]; exact h)
 | arrow h => exact .arrow (by rw [hl]; exact h)
theorem NodeOk.sh {K : List UInt8 → Int} {x : UNode} (h : NodeOk K x) : NodeOk K x.sh := by
 cases h with
 | var => exact .var
 | con h => exact .con h
 | pair h => exact .pair (by simpa using h)
 | arrow h => exact .arrow (by simpa using h)
theorem den_fit {K : List UInt8 → Int} {S : Store} (hw : Wf S) (nok : ∀ n, n < S.nodes.length → NodeOk K (S.node n)) {f : Nat → Nat} {n : Nat} {T : Ty} (d : Den S n T) : n < S.nodes.length → (∀ v ∈ T.vars, f v < 1073741824) → (T.rename f).Fit K := by
 induction d with
 | @var n h =>
  intro _ hf
  simp only [Ty.rename, if_true]
  rw [Ty.fit_mk, fits_cases]
  refine ⟨.var (Int.natCast_nonneg _) ?_, fun a ha => by simp at ha⟩
  have := hf (S.find n) (by simp [Ty.vars])
  simp only [Int.toNat_natCast]; omega
 | @app n ts h hl ha ih =>
  intro hn hf
  have hk2 : ((S.form n).kind : Int) ≠ 1 := by omega
  simp only [Ty.rename, if_neg hk2]
  rw [Ty.fit_mk]
  refine ⟨(nok _ (formN_lt hw hn)).fits h (by rw [Ty.renameL_eq, List.length_map, hl]; rfl), fun a hm => ?_⟩
  rw [Ty.renameL_eq] at hm
  obtain ⟨t, ht, rfl⟩ := List.mem_map.1 hm
  obtain ⟨i, hi, he⟩ := List.getElem_of_mem ht
  have h3 : ts.getD i default = t := by rw [List.getD_eq_getElem?_getD, List.getElem?_eq_getElem hi, he]; rfl
  have h1 := ih i hi (arg_lt hw hn (by rw [← hl]; exact hi))
  rw [h3] at h1
  refine h1 fun v hv => hf v ?_
  simp only [Ty.vars, if_neg hk2]
  exact Ty.mem_varsL.2 ⟨t, ht, hv⟩
theorem Ty.vars_length : ∀ t : Ty, t.vars.length ≤ t.size := by
 intro t
 induction t using Ty.ind with
 | h k n s b az ih =>
  simp only [Ty.vars, Ty.size]
  by_cases hk : k = 1
  ·simp [hk]
  ·rw [if_neg hk]
   have key : ∀ l : List Ty, (∀ a ∈ l, a.vars.length ≤ a.size) → (Ty.varsL l).length ≤ Ty.sizeL l := by
    intro l
    induction l with
    | nil => intro _; exact Nat.le_refl _
    | cons a l ih2 =>
     intro h
     have h1 := h a (by simp)
     have h2 := ih2 fun x hx => h x (by simp [hx])
     simp only [Ty.varsL, Ty.sizeL, List.length_append]; omega
   have := key az ih; omega
theorem addVs_length : ∀ {vs l : List Nat}, (addVs l vs).length ≤ l.length + vs.length
 | [], l => by simp [addVs]
 | v :: vs, l => by
  have h1 : (addV l v).length ≤ l.length + 1 := by unfold addV; split <;> simp
  have h2 := addVs_length (vs := vs) (l := addV l v)
  show (addVs (addV l v) vs).length ≤ _
  simp only [List.length_cons]; omega
theorem idx_lt {l : List Nat} {v : Nat} (h : v ∈ l) : idx l v < l.length := List.idxOf_lt_length_of_mem h
theorem idx_close {t : Ty} {v : Nat} (h : v ∈ t.vars) : idx (addVs [] t.vars) v < t.size := by
 have h1 := idx_lt (l := addVs [] t.vars) (mem_addVs.2 (.inr h))
 have h2 := addVs_length (vs := t.vars) (l := [])
 have h3 := t.vars_length
 simp only [List.length_nil] at h2
 omega
theorem den_size {S : Store} {f : Nat → Nat} {n : Nat} {T : Ty} (d : Den S n T) : (T.rename f).size = T.size := by
 induction d with
 | var h => simp [Ty.rename, Ty.size, Ty.sizeL]
 | @app n ts h hl ha ih =>
  have hk2 : ((S.form n).kind : Int) ≠ 1 := by omega
  simp only [Ty.rename, if_neg hk2, Ty.size]
  congr 1
  have key : ∀ l : List Ty, (∀ t ∈ l, (t.rename f).size = t.size) → Ty.sizeL (Ty.renameL f l) = Ty.sizeL l := by
   intro l
   induction l with
   | nil => intro _; rfl
   | cons a l ih2 => intro h; simp only [Ty.renameL, Ty.sizeL, h a (by simp), ih2 fun x hx => h x (by simp [hx])]
  refine key ts fun t ht => ?_
  obtain ⟨i, hi, he⟩ := List.getElem_of_mem ht
  have h3 : ts.getD i default = t := by rw [List.getD_eq_getElem?_getD, List.getElem?_eq_getElem hi, he]; rfl
  rw [← h3]; exact ih i hi
/-! ### Making a type -/
structure Made (K : List UInt8 → Int) (S : Store) (m : List (Nat × Nat)) : Prop where
 wf : Wf S
 free : S.free
 nok : ∀ n, n < S.nodes.length → NodeOk K (S.node n)
 vals : ∀ v x, getN m v = some x → x < S.nodes.length
theorem add_node {S : Store} {x : UNode} {n : Nat} (h : n < S.nodes.length) : (S.add x).node n = S.node n := by
 unfold Store.node Store.add
 simp only [List.getD_eq_getElem?_getD, List.getElem?_append_left h]
theorem add_node_new {S : Store} {x : UNode} : (S.add x).node S.nodes.length = x := by
 unfold Store.node Store.add
 simp [List.getD_eq_getElem?_getD]
theorem add_len {S : Store} {x : UNode} : (S.add x).nodes.length = S.nodes.length + 1 := by simp [Store.add]
theorem Made.add {K : List UInt8 → Int} {S : Store} {m : List (Nat × Nat)} (h : Made K S m) {x : UNode} (hx : NodeOk K x) (ha : ∀ a ∈ x.args, a < S.nodes.length) (hsz : S.nodes.length + 1 ≤ 2 ^ 12) (hal : x.args.length ≤ 2 ^ 12) (hni : x.isnil = true → x.args = []) : Made K (S.add x) m where
 wf := h.wf.add ha hsz hal hni
 free := fun n hn => by
  rw [add_len] at hn
  show (S.above ++ [S.nodes.length]).getD n 0 = n ∧ (S.forms ++ [S.nodes.length]).getD n 0 = n
  rw [getD_snoc, getD_snoc, h.wf.la, h.wf.lf]
  by_cases h1 : n = S.nodes.length
  ·rw [if_pos h1, if_pos h1]; exact ⟨h1.symm, h1.symm⟩
  ·rw [if_neg h1, if_neg h1]; exact h.free n (by omega)
 nok := fun n hn => by
  rw [add_len] at hn
  by_cases h1 : n = S.nodes.length
  ·rw [h1, add_node_new]; exact hx
  ·rw [add_node (by omega)]; exact h.nok n (by omega)
 vals := fun v x hx => by rw [add_len]; have := h.vals v x hx; omega
structure Grew (S S' : Store) (n : Nat) : Prop where
 le : S.nodes.length ≤ S'.nodes.length
 most : S'.nodes.length ≤ S.nodes.length + n
 node : ∀ i, i < S.nodes.length → S'.node i = S.node i
theorem Grew.trans {S S' S'' : Store} {n k : Nat} (a : Grew S S' n) (b : Grew S' S'' k) : Grew S S'' (n + k) :=
 ⟨Nat.le_trans a.le b.le, by have := a.most; have := b.most; omega, fun i hi => (b.node i (Nat.lt_of_lt_of_le hi a.le)).trans (a.node i hi)⟩
theorem Grew.add {S : Store} {x : UNode} : Grew S (S.add x) 1 := ⟨by rw [add_len]; omega, by rw [add_len]; omega, fun i hi => add_node hi⟩
theorem build_made {K : List UInt8 → Int} : ∀ (t : Ty), t.Fit K → ∀ {S : Store} {m : List (Nat × Nat)}, Made K S m → S.nodes.length + t.size ≤ 2 ^ 12 →
  Made K (S.build m t).1 (S.build m t).2.1 ∧ (S.build m t).2.2 < (S.build m t).1.nodes.length ∧ Grew S (S.build m t).1 t.size := by
 intro t
 induction t using Ty.ind with
 | h k n s b az ih =>
  intro hf S m hm hsz
  obtain ⟨hfit, hfa⟩ := Ty.fit_mk.1 hf
  simp only [Ty.size] at hsz
  by_cases hk : k = 1
  ·simp only [Store.build, if_pos hk]
   cases hg : getN m n.toNat with
   | some v => exact ⟨hm, hm.vals _ _ hg, Nat.le_refl _, Nat.le_add_right _ _, fun _ _ => rfl⟩
   | none =>
    have h1 := hm.add (x := varN) .var (fun a ha => by simp [varN] at ha) (by omega) (by simp [varN]) (fun _ => rfl)
    refine ⟨⟨h1.wf, h1.free, h1.nok, fun v x hx => ?_⟩, by rw [add_len]; exact Nat.lt_succ_self _, ?_⟩
    ·rw [getN_putN] at hx
     split at hx
     ·cases hx; rw [add_len]; exact Nat.lt_succ_self _
     ·exact h1.vals v x hx
    ·exact ⟨Grew.add.le, by have := (Grew.add (S := S) (x := varN)).most; simp only [Ty.size]; omega, Grew.add.node⟩
  ·simp only [Store.build, if_neg hk]
   have key : ∀ (l : List Ty) {S : Store} {m : List (Nat × Nat)}, (∀ a ∈ l, a ∈ az) → Made K S m → S.nodes.length + Ty.sizeL l ≤ 2 ^ 12 →
     Made K (S.buildL m l).1 (S.buildL m l).2.1 ∧ (∀ a ∈ (S.buildL m l).2.2, a < (S.buildL m l).1.nodes.length) ∧ Grew S (S.buildL m l).1 (Ty.sizeL l) ∧ (S.buildL m l).2.2.length = l.length := by
    intro l
    induction l with
    | nil => intro S m _ hm _; exact ⟨hm, fun a ha => by simp [Store.buildL] at ha, ⟨Nat.le_refl _, Nat.le_add_right _ _, fun _ _ => rfl⟩, rfl⟩
    | cons a l ih2 =>
     intro S m hin hm hsz
     simp only [Ty.sizeL] at hsz ⊢
     obtain ⟨h1, h2, h3⟩ := ih a (hin a (by simp)) (hfa a (hin a (by simp))) hm (by omega)
     obtain ⟨h4, h5, h6, h7⟩ := ih2 (fun x hx => hin x (by simp [hx])) h1 (by have := h3.most; omega)
     simp only [Store.buildL]
     refine ⟨h4, fun x hx => ?_, h3.trans h6, by simp [h7]⟩
     rcases List.mem_cons.1 hx with h8 | h8
     ·subst h8; exact Nat.lt_of_lt_of_le h2 h6.le
     ·exact h5 x h8
   obtain ⟨h1, h2, h3, h4⟩ := key az (fun _ h => h) hm (by omega)
   have hal := Ty.sizeL_ge az
   have hok : NodeOk K ⟨k.toNat, s, (S.buildL m az).2.2, false⟩ := by
    cases fits_cases.1 hfit with
    | var => exact absurd rfl hk
    | con h => exact .con h
    | pair h => exact .pair (by rw [h4]; exact h)
    | arrow h => exact .arrow (by rw [h4]; exact h)
   have h5 := h1.add hok h2 (by have := h3.most; omega) (by simp only; omega) (fun h => by cases h)
   refine ⟨h5, by rw [add_len]; exact Nat.lt_succ_self _, ?_⟩
   have h6 := h3.trans (Grew.add (x := ⟨k.toNat, s, (S.buildL m az).2.2, false⟩))
   simp only [Ty.size]
   rwa [Nat.add_comm] at h6
theorem getN_shv {m : List (Nat × Nat)} {n : Nat} : getN (shv m) n = (getN m n).map (· + 1) := by
 induction m with
 | nil => rfl
 | cons q m ih =>
  obtain ⟨k, v⟩ := q
  simp only [shv, List.map_cons, getN] at ih ⊢
  by_cases h : k = n
  ·rw [if_pos h, if_pos h]; rfl
  ·rw [if_neg h, if_neg h]; exact ih
theorem putN_shv {m : List (Nat × Nat)} {n x : Nat} : putN (shv m) n (x + 1) = shv (putN m n x) := by
 induction m with
 | nil => rfl
 | cons q m ih =>
  obtain ⟨k, v⟩ := q
  simp only [shv, List.map_cons, putN] at ih ⊢
  by_cases h : k = n
  ·rw [if_pos h, if_pos h]; rfl
  ·rw [if_neg h, if_neg h, ih]; rfl
theorem sh_add' (S : Store) (x : UNode) : (S.add x).sh = S.sh.add x.sh := by simp [Store.add, Store.sh]
theorem sh_build : ∀ (t : Ty) {S : Store} {m : List (Nat × Nat)}, S.sh.build (shv m) t = ((S.build m t).1.sh, shv (S.build m t).2.1, (S.build m t).2.2 + 1) := by
 intro t
 induction t using Ty.ind with
 | h k n s b az ih =>
  intro S m
  by_cases hk : k = 1
  ·simp only [Store.build, if_pos hk, getN_shv]
   cases hg : getN m n.toNat with
   | some v => rfl
   | none =>
    simp only [Option.map_none]
    rw [sh_add', ← putN_shv, sh_len]; rfl
  ·simp only [Store.build, if_neg hk]
   have key : ∀ (l : List Ty) {S : Store} {m : List (Nat × Nat)}, (∀ a ∈ l, a ∈ az) → S.sh.buildL (shv m) l = ((S.buildL m l).1.sh, shv (S.buildL m l).2.1, (S.buildL m l).2.2.map (· + 1)) := by
    intro l
    induction l with
    | nil => intro S m _; rfl
    | cons a l ih2 =>
     intro S m hin
     simp only [Store.buildL, ih a (hin a (by simp)), ih2 (fun x hx => hin x (by simp [hx])), List.map_cons]
   rw [key az fun _ h => h]
   simp only
   rw [sh_add', sh_len]; rfl
/-! ### One name applied to another -/
def store0 : Store := ⟨[], [], [], []⟩
theorem made0 {K : List UInt8 → Int} : Made K store0 [] where
 wf := by
  refine ⟨?_, ?_, ?_, ?_, ?_, ?_, ?_, ?_, rfl, rfl, rfl⟩
  ·exact fun n hn => absurd hn (Nat.not_lt_zero _)
  ·exact fun n hn => absurd hn (Nat.not_lt_zero _)
  ·exact fun n hn => absurd hn (Nat.not_lt_zero _)
  ·exact fun n hn => absurd hn (Nat.not_lt_zero _)
  ·simp [store0]
  ·exact fun n hn => absurd hn (Nat.not_lt_zero _)
  ·exact fun n hn => absurd hn (Nat.not_lt_zero _)
  ·exact fun n => by simp [store0, Store.rank, Store.roots]
 free := fun n hn => absurd hn (Nat.not_lt_zero _)
 nok := fun n hn => absurd hn (Nat.not_lt_zero _)
 vals := fun v x h => by cases h
structure Use where
 S : Store
 a : Nat
 b : Nat
 r : Nat
 c : Nat
/-- The store that the law makes. -/
def use4 (F X : Ty) : Use :=
 let p := store0.build [] F
 let q := p.1.build [] X
 ⟨(q.1.add varN).add (arrowN q.2.2 q.1.nodes.length), p.2.2, q.2.2, q.1.nodes.length, q.1.nodes.length + 1⟩
structure Used (K : List UInt8 → Int) (F X : Ty) (u : Use) : Prop where
 made : Made K u.S []
 a : u.a < u.S.nodes.length
 b : u.b < u.S.nodes.length
 r : u.r < u.S.nodes.length
 c : u.c < u.S.nodes.length
 ac : u.a ≠ u.c
 nc : u.S.node u.c = arrowN u.b u.r
 len : u.S.nodes.length ≤ F.size + X.size + 2
theorem Made.map {K : List UInt8 → Int} {S : Store} {m : List (Nat × Nat)} (h : Made K S m) : Made K S [] := ⟨h.wf, h.free, h.nok, fun v x h => by cases h⟩
theorem use4_ok {K : List UInt8 → Int} {F X : Ty} (hF : F.Fit K) (hX : X.Fit K) (h1 : F.size ≤ 300) (h2 : X.size ≤ 300) : Used K F X (use4 F X) := by
 obtain ⟨m1, a1, g1⟩ := build_made F hF (made0 (K := K)) (by simp only [store0, List.length_nil]; omega)
 have hl0 : store0.nodes.length = 0 := rfl
 obtain ⟨m2, a2, g2⟩ := build_made X hX m1.map (by have := g1.most; omega)
 have e1 := g1.most
 have e2 := g2.most
 have e3 := g2.le
 generalize hp : store0.build [] F = p at m1 a1 g1 m2 a2 g2 e1 e2 e3
 generalize hq : p.1.build [] X = q at m2 a2 g2 e2 e3
 have hu : use4 F X = ⟨(q.1.add varN).add (arrowN q.2.2 q.1.nodes.length), p.2.2, q.2.2, q.1.nodes.length, q.1.nodes.length + 1⟩ := by unfold use4; simp only [hp, hq]
 rw [hu]
 have m3 := m2.map.add (x := varN) .var (fun a ha => by simp [varN] at ha) (by omega) (by simp [varN]) (fun _ => rfl)
 have l3 : (q.1.add varN).nodes.length = q.1.nodes.length + 1 := add_len
 have m4 := m3.add (x := arrowN q.2.2 q.1.nodes.length) (.arrow rfl) (fun a ha => by
  simp only [arrowN, List.mem_cons, List.not_mem_nil, or_false] at ha
  rcases ha with rfl | rfl <;> omega) (by omega) (by simp [arrowN]) (fun h => by cases h)
 refine ⟨m4, ?_, ?_, ?_, ?_, ?_, ?_, ?_⟩
 ·simp only [add_len]; omega
 ·simp only [add_len]; omega
 ·simp only [add_len]; omega
 ·simp only [add_len]; omega
 ·simp only; omega
 ·show ((q.1.add varN).add _).node (q.1.nodes.length + 1) = _
  rw [← l3, add_node_new]
 ·simp only [add_len]; omega
theorem mergeF_steps : ∀ {k : Nat} {S : Store} {st : List UStep} {w : List (Nat × Nat)} {S' : Store} {st' : List UStep} {b : Bool}, Store.mergeF true k S st w = some (S', st', b) → st' = [] → S' = S ∧ st = [] := by
 intro k
 induction k with
 | zero => intro S st w S' st' b h; cases h
 | succ k ih =>
  intro S st w S' st' b h he
  subst he
  cases w with
  | nil => simp only [Store.mergeF, Option.some.injEq, Prod.mk.injEq] at h; exact ⟨h.1.symm, h.2.1⟩
  | cons q w =>
   obtain ⟨x, y⟩ := q
   simp only [Store.mergeF] at h
   split at h
   ·exact ih h rfl
   ·split at h
    ·simp only [if_true] at h
     have := (ih h rfl).2
     simp at this
    ·split at h
     ·simp only [Option.some.injEq, Prod.mk.injEq] at h; exact ⟨h.1.symm, h.2.1⟩
     ·have := (ih h rfl).2
      simp at this
/-- What unifying tells: an error, or what the three nodes stand for. -/
structure Unified (K : List UInt8 → Int) (u : Use) (S : Store) (Ta Tb Tr : Ty) : Prop where
 wf : Wf S
 nodes : S.nodes = u.S.nodes
 a : Den S u.a Ta
 b : Den S u.b Tb
 r : Den S u.r Tr
 size : Ta.size = 1 + Tb.size + Tr.size
theorem use_unify {K : List UInt8 → Int} {F X : Ty} {u : Use} (h : Used K F X u) {k : Nat} (hk : 2 ^ 25 ≤ k) :
  ∃ S e, u.S.unify k u.a u.c = some (S, e) ∧ (e = 131 ∨ e = 130 ∨ (e = 0 ∧ ∃ Ta Tb Tr, Unified K u S Ta Tb Tr)) := by
 have hw := h.made.wf
 have hq : ∀ q ∈ [(u.a, u.c)], q.1 < u.S.nodes.length ∧ q.2 < u.S.nodes.length := fun q hq => by simp at hq; subst hq; exact ⟨h.a, h.c⟩
 have hro : u.S.roots ≤ 2 ^ 12 := by
  have h1 : u.S.roots ≤ u.S.nodes.length := by
   unfold Store.roots
   have := List.countP_le_length (p := fun n => u.S.up n == n) (l := List.range u.S.nodes.length)
   simpa using this
  exact Nat.le_trans h1 hw.size
 obtain ⟨⟨S, st, ok⟩, hm⟩ := merge_some k (st := []) (w := [(u.a, u.c)]) hw hq (by
  have h3 : u.S.roots * 4097 ≤ 2 ^ 12 * 4097 := Nat.mul_le_mul_right _ hro
  have h2 : (2 : Nat) ^ 12 * 4097 + 1 < 2 ^ 25 := by decide
  exact Nat.lt_of_lt_of_le (Nat.lt_of_le_of_lt (Nat.add_le_add_right h3 1) h2) hk)
 unfold Store.unify
 rw [hm]
 cases ok with
 | false => exact ⟨S, 131, rfl, .inl rfl⟩
 | true =>
  have M := merged hw ((Cong.of_free h.made.free).more fun R r q hq => by simp at hq) hq hm
  cases st with
  | nil =>
   exfalso
   obtain ⟨rfl, _⟩ := mergeF_steps hm rfl
   have := M.work (u.a, u.c) (by simp)
   simp only at this
   rw [find_self (h.made.free _ h.a).1, find_self (h.made.free _ h.c).1] at this
   exact h.ac this
  | cons d st =>
   have ha' : u.a < S.nodes.length := by rw [M.nodes]; exact h.a
   have hc' : u.c < S.nodes.length := by rw [M.nodes]; exact h.c
   obtain ⟨b, hb⟩ := cyc_some M.wf ha' hk
   simp only [hb]
   cases b with
   | true => exact ⟨S, 130, rfl, .inr (.inl rfl)⟩
   | false =>
    refine ⟨S, 0, rfl, .inr (.inr ⟨rfl, ?_⟩)⟩
    obtain ⟨T, hT⟩ := cyc_den M.wf ha' hb
    have hac := M.work (u.a, u.c) (by simp)
    simp only at hac
    have hnc : S.node u.c = arrowN u.b u.r := by
     have : S.node u.c = u.S.node u.c := by unfold Store.node; rw [M.nodes]
     rw [this, h.nc]
    have hka : (S.form u.a).kind ≠ 1 := M.cong.non u.a u.c ha' hc' hac.symm (by rw [hnc]; simp [arrowN])
    have hal := M.cong.cong (fun x y => S.find x = S.find y) ⟨fun _ => rfl, fun _ _ h => h.symm, fun _ _ _ h g => h.trans g, fun _ _ _ _ h => h, fun q hq => by simp at hq⟩
     (S.formN u.a) u.c (formN_lt M.wf ha') hc' (by rw [M.cong.own _ ha']; exact hac) hka (by rw [hnc]; simp [arrowN])
    have hlen := hal.len
    rw [hnc] at hlen
    have hlen2 : (S.form u.a).args.length = 2 := hlen
    cases hT with
    | var h1 => exact absurd h1 hka
    | @app _ ts h1 hl hd =>
     have hl2 : ts.length = 2 := by rw [hl, hlen2]
     obtain ⟨Tb, Tr, rfl⟩ : ∃ x y, ts = [x, y] := by
      match ts, hl2 with
      | [x, y], _ => exact ⟨x, y, rfl⟩
     have hb := hd 0 (by simp)
     have hr := hd 1 (by simp)
     simp only [List.getD_cons_zero, List.getD_cons_succ] at hb hr
     have fb := hal.args 0 (by rw [hal.len, hnc]; simp [arrowN])
     have fr := hal.args 1 (by rw [hal.len, hnc]; simp [arrowN])
     rw [hnc] at fb fr
     refine ⟨_, Tb, Tr, M.wf, M.nodes, .app h1 hl hd, hb.of_find fb, hr.of_find fr, ?_⟩
     simp [Ty.size, Ty.sizeL]; omega
end Go.Dv.Us
