/- A part of the proof of InferUses, second form: for every input of bulk at most 1048576 the call returns true and the arguments read as they did. Its condition: that bulk. -/
import Derived.Test.YtanhfhjoeoinoaaGreatDoorU09
/- Rows of memory: read, written, made longer. -/
namespace Go.Dv
/-- What a row's value leads to. -/
def AV.own : AV → List Nat
 | .msl id _ _ _ _ => [id]
 | _ => []
/-- A row of the heap from its beginning on: so many elements of so many cells. -/
inductive RowAt (h : Hp) (sz : Nat) : AV → Nat → List AV → Prop
 | nil : RowAt h sz (.d .nilslice) 0 []
 | row {id len ver : Nat} {cs : List AV} (hg : h.get id = some (.cells cs ver)) (hc : cs.length = len * sz) (hl : id < h.next) : RowAt h sz (.msl id 0 len ver sz) len cs
section
variable {C : Ctx} {Or : FuncId → List AV → Hp → AV → Hp → Prop} {Xo : FuncId → List AV → AV → Prop} {X : Fr} {K : SSt → Prop} {K2 : List SSt → SSt → Prop} {ops : Array Oper} {l : List Oper} {k : Nat} {o : Oper}
 {env : List (Nat × AV)} {loc : List (Nat × List AV)} {h h' : Hp} {d : Nat} {v w : AV} {sz len : Nat} {cs : List AV}
theorem RowAt.lenA_eq (r : RowAt h sz v len cs) {H : Nat → Option Obj} : lenA H v = some len := by
 cases r <;> rfl
theorem RowAt.lenKind (r : RowAt h sz v len cs) {t e : TypeId} {b1 : Nat} {b2 : Bool} {b3 : Nat} {b4 : List DV} (ht : C.T t = some ⟨.slice e, b1, b2, b3, b4⟩) : lenKind C t v = true := by
 cases r <;> simp only [Dv.lenKind, ht]
theorem RowAt.clen (r : RowAt h sz v len cs) : cs.length = len * sz := by
 cases r with
 | nil => simp
 | row _ hc _ => exact hc
theorem RowAt.lt (r : RowAt h sz v len cs) : ∀ id ∈ v.own, id < h.next := by
 cases r with
 | nil => intro id h; simp [AV.own] at h
 | row _ _ hl => intro id h; simp [AV.own] at h; subst h; exact hl
theorem RowAt.cell (r : RowAt h sz v len cs) : v.isCell = true ∧ v.isL = false ∧ v.cells = [v] := by
 cases r <;> exact ⟨rfl, rfl, rfl⟩
theorem RowAt.keep (r : RowAt h sz v len cs) (hn : h.next ≤ h'.next) (hk : ∀ id ∈ v.own, h'.get id = h.get id) : RowAt h' sz v len cs := by
 cases r with
 | nil => exact .nil
 | row hg hc hl => exact .row ((hk _ (by simp [AV.own])).trans hg) hc (Nat.lt_of_lt_of_le hl hn)
theorem RowAt.ne (r : RowAt h sz v len cs) {i : Nat} (hi : i < len) : ∃ id ver, v = .msl id 0 len ver sz := by
 cases r with
 | nil => exact absurd hi (Nat.not_lt_zero _)
 | row hg hc hl => exact ⟨_, _, rfl⟩
theorem RowAt.get {id ver : Nat} (r : RowAt h sz (.msl id 0 len ver sz) len cs) : h.get id = some (.cells cs ver) := by
 cases r with
 | row hg hc hl => exact hg
/-- An element is read. -/
theorem RowAt.read (r : RowAt h sz v len cs) {i : Nat} (hi : i < len) {t e : TypeId} {b1 : Nat} {b2 : Bool} {b3 : Nat} {b4 : List DV} {ei : TI} (ht : C.T t = some ⟨.slice e, b1, b2, b3, b4⟩) (he : C.T e = some ei) (hs : ei.size = sz)
  {r' : List AV} {x : AV} (hr : takeExact sz (i * sz) cs = some r') (hx : oneOf ei.agg r' = some x) :
  ∃ q, indexAddrA C t v (vint i) = some q ∧ ∀ L, loadA C L h.get e q = some x := by
 have h0 : (0 : Int) ≤ i ∧ (i : Int) < (len : Nat) := ⟨Int.natCast_nonneg i, Int.ofNat_lt.2 hi⟩
 cases r with
 | nil => exact absurd hi (Nat.not_lt_zero _)
 | row hg hc hl =>
  refine ⟨_, by simp only [indexAddrA, intOf?, vint, ht, he]; rw [if_pos ⟨hs.symm, h0⟩], fun L => ?_⟩
  simp only [loadA, he, hg, if_true, hs]
  rw [show 0 + (i : Int).toNat * sz = i * sz by simp, hr]
  exact hx
/-- An element is written. -/
theorem RowAt.write (r : RowAt h sz v len cs) {i : Nat} (hi : i < len) {t e : TypeId} {b1 : Nat} {b2 : Bool} {b3 : Nat} {b4 : List DV} {ei : TI} (ht : C.T t = some ⟨.slice e, b1, b2, b3, b4⟩) (he : C.T e = some ei) (hs : ei.size = sz)
  (hx : w.cells.length = sz) (hL : w.isL = false) (hc : w.cells.all AV.isCell = true) :
  ∃ q id ver, v = .msl id 0 len ver sz ∧ indexAddrA C t v (vint i) = some q ∧ ∀ L, storeA C L h.get e q w = some (.setH id (.cells (putAt cs (i * sz) w.cells) ver) none) := by
 have h0 : (0 : Int) ≤ i ∧ (i : Int) < (len : Nat) := ⟨Int.natCast_nonneg i, Int.ofNat_lt.2 hi⟩
 cases r with
 | nil => exact absurd hi (Nat.not_lt_zero _)
 | row hg hcl hl =>
  rename_i id ver
  refine ⟨_, id, ver, rfl, by simp only [indexAddrA, intOf?, vint, ht, he]; rw [if_pos ⟨hs.symm, h0⟩], fun L => ?_⟩
  simp only [storeA, he]
  rw [if_neg (by simp [hx, hs, hL]; simpa using hc)]
  simp only [hg]
  have hb : i * sz + sz ≤ len * sz := by
   have : (i + 1) * sz ≤ len * sz := Nat.mul_le_mul_right _ hi
   rwa [Nat.succ_mul] at this
  rw [hs, show 0 + (i : Int).toNat * sz = i * sz by simp, if_pos ⟨trivial, by rw [hx, hcl]; exact hb⟩]
/-- What a row is when it has been made longer. -/
structure Longer (h : Hp) (v : AV) (sz len : Nat) (cs : List AV) (h' : Hp) (v' : AV) : Prop where
 row : RowAt h' sz v' len cs
 next : h.next ≤ h'.next
 keep : ∀ id, id < h.next → id ∉ v.own → h'.get id = h.get id
 own : ∀ id ∈ v'.own, id ∈ v.own ∨ h.next ≤ id
section
variable {t : TypeId} {e : TypeId} {b1 : Nat} {b2 : Bool} {b3 : Nat} {b4 : List DV} {ei t2i : TI} {x : AV} {n : Nat} {new : List AV} {c : Call}
theorem s_append (r : RowAt h sz v len cs) (hw : wantedA ops (lk env) o = some true) (hop : o.op = .call c) (hcal : c.callee = .builtin .append) (hargs : evalArgs (rho C (lk env)) c.args.toList = some [v, x]) (htt : c.argTypes[0]? = some t)
  (hT : C.T t = some ⟨.slice e, b1, b2, b3, b4⟩) (hT2 : (c.argTypes[1]?).bind C.T = some t2i) (ha : appendable t2i.k = true) (hE : C.T e = some ei) (hs : ei.size = sz) (hb : ei.bytes ≤ 2 ^ 16)
  (hn : lenA h.get x = some n) (hx : elemsOf h.get sz x = some new) (hc : new.all AV.isCell = true) (hle : n ≤ 2 ^ 26) (hl : new.length = n * sz) (h0 : n ≠ 0) (hlen : len ≤ 2 ^ 26) (hd : o.dst = some d) (ho : okS X d = true)
  (hk : ∀ h' v', Longer h v sz (len + n) (cs ++ new) h' v' → wpL C Or Xo X ops l (k + 1) ⟨(d, v') :: env, loc, h'⟩ K) : wpL C Or Xo X ops (o :: l) k ⟨env, loc, h⟩ K := by
 subst hs
 cases r with
 | nil =>
  refine s_newCells hw (o_append hop hcal hargs htt (appendA_nil hT hT2 ha hE hb hn hx hc hle hl h0)) hd (okS_spec ho).1 (hk _ _ ⟨by rw [Nat.zero_add, List.nil_append]; exact .row (if_pos rfl) hl (Nat.lt_succ_self _), Nat.le_succ _, fun id h1 _ => ?_, fun id h1 => ?_⟩)
  ·rw [Hp.get_newC, if_neg (by omega)]
  ·simp [AV.own] at h1; subst h1; exact .inr (Nat.le_refl _)
 | row hg hcl hlt =>
  refine s_grow hw (o_append hop hcal hargs htt (appendA_row hT hT2 ha hE hb hn hx hc hle hl hg hcl hlen)) hd ho (hk _ _ ⟨.row (if_pos rfl) (by simp [hl, hcl, Nat.add_mul]) hlt, Nat.le_refl _, fun id _ h1 => ?_, fun id h1 => ?_⟩)
  ·rw [Hp.get_grown, if_neg (by simpa [AV.own] using h1)]
  ·exact .inl (by simpa [AV.own] using h1)
theorem d_append {i : Nat} {li : List Nat} {acc : List SSt} (r : RowAt h sz v len cs) (hi : ops[i]? = some o) (hw : wantedA ops (lk env) o = some true) (hop : o.op = .call c) (hcal : c.callee = .builtin .append) (hargs : evalArgs (rho C (lk env)) c.args.toList = some [v, x]) (htt : c.argTypes[0]? = some t)
  (hT : C.T t = some ⟨.slice e, b1, b2, b3, b4⟩) (hT2 : (c.argTypes[1]?).bind C.T = some t2i) (ha : appendable t2i.k = true) (hE : C.T e = some ei) (hs : ei.size = sz) (hb : ei.bytes ≤ 2 ^ 16)
  (hn : lenA h.get x = some n) (hx : elemsOf h.get sz x = some new) (hc : new.all AV.isCell = true) (hle : n ≤ 2 ^ 26) (hl : new.length = n * sz) (h0 : n ≠ 0) (hlen : len ≤ 2 ^ 26) (hd : o.dst = some d) (ho : okS X d = true)
  (hk : ∀ h' v', Longer h v sz (len + n) (cs ++ new) h' v' → wpO C Or Xo X ops li (⟨env, loc, h⟩ :: acc) ⟨(d, v') :: env, loc, h'⟩ K2) : wpO C Or Xo X ops (i :: li) acc ⟨env, loc, h⟩ K2 := by
 subst hs
 cases r with
 | nil =>
  refine d_newCells hi hw (o_append hop hcal hargs htt (appendA_nil hT hT2 ha hE hb hn hx hc hle hl h0)) hd (okS_spec ho).1 (hk _ _ ⟨by rw [Nat.zero_add, List.nil_append]; exact .row (if_pos rfl) hl (Nat.lt_succ_self _), Nat.le_succ _, fun id h1 _ => ?_, fun id h1 => ?_⟩)
  ·rw [Hp.get_newC, if_neg (by omega)]
  ·simp [AV.own] at h1; subst h1; exact .inr (Nat.le_refl _)
 | row hg hcl hlt =>
  refine d_grow hi hw (o_append hop hcal hargs htt (appendA_row hT hT2 ha hE hb hn hx hc hle hl hg hcl hlen)) hd ho (hk _ _ ⟨.row (if_pos rfl) (by simp [hl, hcl, Nat.add_mul]) hlt, Nat.le_refl _, fun id _ h1 => ?_, fun id h1 => ?_⟩)
  ·rw [Hp.get_grown, if_neg (by simpa [AV.own] using h1)]
  ·exact .inl (by simpa [AV.own] using h1)
end
end
end Go.Dv
/- Joining points; ranges over functions, in contracts. -/
namespace Go.Dv
section
variable {C : Ctx} {Or : FuncId → List AV → Hp → AV → Hp → Prop} {Xo : FuncId → List AV → AV → Prop} {X : Fr} {σ σ' : SSt} {Q : Ex → SSt → Prop}
/-- Two ways meet again: a state of each index. -/
theorem s_mid {ι : Type} {a b : Code} (S : ι → SSt) (P : ι → Prop) (h1 : wpC C Or Xo X a σ (andThen (fun σ' => ∃ i, P i ∧ SLe (S i) σ') Q)) (h2 : ∀ i, P i → wpC C Or Xo X b (S i) Q) : wpC C Or Xo X (.seq a b) σ Q := by
 refine s_seq (wpC_mono h1 fun e σ' h => ?_)
 cases e with
 | normal => obtain ⟨i, hi, hle⟩ := h; exact s_less hle (h2 i hi)
 | ret => exact h
 | exit id => exact h
/-! ### Ranges over functions -/
variable (C Or Xo) in
/-- A round: what yield does, from a memory. -/
def Yld (id : Nat) (args : List AV) (h : Hp) (R : Bool → Hp → Prop) : Prop :=
 ∃ rec env σ₁ rec₁ e σ₂ rec₂, h.get id = some (.loop rec) ∧ assignP rec.n rec.params.toList args (envOf rec.env) = some env ∧
  Big C Or Xo (.code ⟨rec.fn, rec.n, C.A rec.fn, some id⟩ rec.assign ⟨env, emptyLoc, h⟩) (.code .normal σ₁) ∧
  σ₁.h.get id = some (.loop rec₁) ∧ rec₁.state = .ready ∧
  Big C Or Xo (.code ⟨rec.fn, rec.n, C.A rec.fn, some id⟩ rec.body ⟨σ₁.env, σ₁.loc, σ₁.h.set id (.loop { rec₁ with state := .busy })⟩) (.code e σ₂) ∧
  σ₂.h.get id = some (.loop rec₂) ∧
  R (e = .normal) (σ₂.h.set id (.loop { rec₂ with state := if e = .normal then .ready else .done, pending := e.code }))
variable {K : SSt → Prop} {ops : Array Oper} {l : List Oper} {k : Nat} {o : Oper} {env : List (Nat × AV)} {loc : List (Nat × List AV)} {h : Hp} {d : Nat}
theorem s_yield {id : Nat} {args : List AV} {R : Bool → Hp → Prop} (hy : Yld C Or Xo id args h R) (hw : wantedA ops (lk env) o = some true) (hc : callOf C (lk env) o = some (.yield id args)) (hd : o.dst = some d) (ho : okS X d = true)
  (hk : ∀ b h', R b h' → wpL C Or Xo X ops l (k + 1) ⟨(d, vbool b) :: env, loc, h'⟩ K) : wpL C Or Xo X ops (o :: l) k ⟨env, loc, h⟩ K := by
 obtain ⟨h1, h2⟩ := okS_spec ho
 obtain ⟨rec, en, σ₁, rec₁, e, σ₂, rec₂, hg, hp, hb1, hr1, hs, hb2, hr2, hR⟩ := hy
 refine s_one (σ := ⟨env, loc, h⟩) (σ' := ⟨(d, vbool (e = .normal)) :: env, loc, _⟩) (fun hoo => .yield (σ := SSt.to ⟨env, loc, h⟩) hoo hw hc hg hp hb1 hr1 hs hb2 hr2 ?_) (hk _ _ hR)
 rw [hd]
 exact putV_S (σ := ⟨env, loc, σ₂.h.set id (.loop { rec₂ with state := if e = .normal then .ready else .done, pending := e.code })⟩) h1 h2
/-- The slots that a round finds. -/
def roundEnv (n : Nat) : List Nat → List AV → List (Nat × AV) → Option (List (Nat × AV))
 | [], [], e => some e
 | p :: ps, v :: vs, e => cond (Nat.blt p n) (roundEnv n ps vs ((p, v) :: e)) none
 | _, _, _ => none
theorem envOf_lk (l : List (Nat × AV)) : envOf l = lk l := by
 funext t
 induction l with
 | nil => rfl
 | cons a l ih =>
  obtain ⟨k, v⟩ := a
  unfold envOf at ih ⊢
  simp only [List.lookup, lk]
  cases hb : Nat.beq k t with
  | true =>
   have := Nat.eq_of_beq_eq_true hb; subst this; simp
  | false =>
   have hne : t ≠ k := by rintro rfl; simp at hb
   rw [show (t == k) = false by simpa using hne]
   exact ih
theorem assignP_S {n : Nat} : ∀ {ps : List Nat} {vs : List AV} {e e' : List (Nat × AV)}, roundEnv n ps vs e = some e' → assignP n ps vs (lk e) = some (lk e')
 | [], [], e, e', h => by simp only [roundEnv, Option.some.injEq] at h; subst h; rfl
 | p :: ps, v :: vs, e, e', h => by
  simp only [roundEnv] at h
  cases hb : Nat.blt p n with
  | false => rw [hb] at h; cases h
  | true =>
   rw [hb] at h
   simp only [assignP, if_pos (lt_of_blt hb)]
   rw [← lk_cons]
   exact assignP_S h
 | [], _ :: _, _, _, h => by cases h
 | _ :: _, [], _, _, h => by cases h
/-- What yield does, from the round's code: assigning, then the body. -/
theorem yld_of {id : Nat} {args : List AV} {R : Bool → Hp → Prop} {rec : LoopR} {e0 : List (Nat × AV)} (hg : h.get id = some (.loop rec)) (hp : roundEnv rec.n rec.params.toList args rec.env = some e0)
  (h1 : wpC C Or Xo ⟨rec.fn, rec.n, C.A rec.fn, some id⟩ rec.assign ⟨e0, [], h⟩ (fun e σ' => e = .normal ∧ ∃ rec₁, σ'.h.get id = some (.loop rec₁) ∧ rec₁.state = .ready ∧
   wpC C Or Xo ⟨rec.fn, rec.n, C.A rec.fn, some id⟩ rec.body ⟨σ'.env, σ'.loc, σ'.h.set id (.loop { rec₁ with state := .busy })⟩ (fun e σ'' => ∃ rec₂, σ''.h.get id = some (.loop rec₂) ∧
    R (e = .normal) (σ''.h.set id (.loop { rec₂ with state := if e = .normal then .ready else .done, pending := e.code }))))) : Yld C Or Xo id args h R := by
 obtain ⟨e, σ₁, hb1, rfl, rec₁, hr1, hs1, e2, σ₂, hb2, rec₂, hr2, hR⟩ := h1
 refine ⟨rec, lk e0, σ₁.to, rec₁, e2, σ₂.to, rec₂, hg, ?_, ?_, hr1, hs1, hb2, hr2, hR⟩
 ·rw [envOf_lk]; exact assignP_S hp
 ·exact hb1
/-- The slots that the loop's rounds see. -/
def keepEnv (ks : List Nat) (env : List (Nat × AV)) : List (Nat × AV) :=
 match ks with
 | [] => []
 | k :: r => match lk env k with
  | some x => cond x.isL (keepEnv r env) ((k, x) :: keepEnv r env)
  | none => keepEnv r env
/-- A range over a function: the loop's record is made, the function is called, the record tells how the loop ended. -/
theorem s_range {g : Operand} {ps : Array Tmp} {assign body : Code} {fv : AV} {f : FuncId} {args : List AV} {ke : List (Nat × AV)} {R : AV → Hp → Prop} (hX : X.round = none) (hg : rho C (lk env) g = some fv)
  (hv : callValA fv [.yld h.next] = some (.call f args)) (hE : LeE ke env) (hL : ke.all (fun p => !p.2.isL) = true)
  (hr : Ret C Or Xo f args (h.alloc (.loop (loopOf X ke ps assign body))) R)
  (hk : ∀ v h', R v h' → ∃ rec e, h'.get h.next = some (.loop rec) ∧ rec.state ≠ .busy ∧ rec.pending = Ex.code e ∧ Q e ⟨env, loc, h'.del h.next⟩) :
  wpC C Or Xo X (.rangeFunc g ps assign body) ⟨env, loc, h⟩ Q := by
 obtain ⟨v, h', hb, hR⟩ := hr
 obtain ⟨rec, e, hrec, hs, hp, hq⟩ := hk v h' hR
 refine ⟨e, ⟨env, loc, h'.del h.next⟩, ?_, hq⟩
 refine .rangeFunc (σ := SSt.to ⟨env, loc, h⟩) hg (fun id hi => by rw [hX] at hi; cases hi) hv ?_ ?_ hb hrec hs hp
 ·rw [envOf_lk]; exact LeE_spec hE
 ·intro t x hx
  have : ∀ (l : List (Nat × AV)), l.all (fun p => !p.2.isL) = true → l.lookup t = some x → x.isL = false := by
   intro l
   induction l with
   | nil => intro _ h; cases h
   | cons a l ih =>
    intro h1 h2
    simp only [List.all_cons, Bool.and_eq_true, Bool.not_eq_true'] at h1
    obtain ⟨k, v⟩ := a
    simp only [List.lookup] at h2
    split at h2
    ·cases h2; exact h1.1
    ·exact ih h1.2 h2
  exact this ke hL hx
end
end Go.Dv
/- Stacks: rows of memory of which a part at the front is used. -/
namespace Go.Dv
/-- A row of which the first elements are used. -/
inductive StkAt (h : Hp) (sz : Nat) : AV → Nat → List AV → Prop
 | mk {id len ver : Nat} {full cs : List AV} (hg : h.get id = some (.cells full ver)) (hc : full.take (len * sz) = cs) (hl : cs.length = len * sz) (hlt : id < h.next) : StkAt h sz (.msl id 0 len ver sz) len cs
theorem drop_take_take {α : Type} {l : List α} {a b n : Nat} (h : a + b ≤ n) : ((l.take n).drop a).take b = (l.drop a).take b := by
 rw [List.drop_take, List.take_take, Nat.min_eq_left (by omega)]
section
variable {C : Ctx} {Or : FuncId → List AV → Hp → AV → Hp → Prop} {Xo : FuncId → List AV → AV → Prop} {X : Fr} {K : SSt → Prop} {K2 : List SSt → SSt → Prop} {ops : Array Oper} {l : List Oper} {k : Nat} {o : Oper}
 {env : List (Nat × AV)} {loc : List (Nat × List AV)} {h h' : Hp} {d : Nat} {v w : AV} {sz len : Nat} {cs : List AV}
theorem StkAt.of {id ver : Nat} (hg : h.get id = some (.cells cs ver)) (hl : cs.length = len * sz) (hlt : id < h.next) : StkAt h sz (.msl id 0 len ver sz) len cs :=
 .mk hg (by rw [← hl, List.take_length]) hl hlt
theorem StkAt.lenA_eq (r : StkAt h sz v len cs) {H : Nat → Option Obj} : lenA H v = some len := by
 cases r; rfl
theorem StkAt.lenKind (r : StkAt h sz v len cs) {t e : TypeId} {b1 : Nat} {b2 : Bool} {b3 : Nat} {b4 : List DV} (ht : C.T t = some ⟨.slice e, b1, b2, b3, b4⟩) : lenKind C t v = true := by
 cases r; simp only [Dv.lenKind, ht]
theorem StkAt.isL (r : StkAt h sz v len cs) : v.isL = false := by cases r; rfl
theorem StkAt.cell (r : StkAt h sz v len cs) : v.isCell = true ∧ v.isL = false ∧ v.cells = [v] := by
 cases r; exact ⟨rfl, rfl, rfl⟩
theorem StkAt.clen (r : StkAt h sz v len cs) : cs.length = len * sz := by cases r; assumption
theorem StkAt.lt (r : StkAt h sz v len cs) : ∀ id ∈ v.own, id < h.next := by
 cases r with
 | mk _ _ _ hl => intro id h; simp [AV.own] at h; subst h; exact hl
theorem StkAt.keep (r : StkAt h sz v len cs) (hn : h.next ≤ h'.next) (hk : ∀ id ∈ v.own, h'.get id = h.get id) : StkAt h' sz v len cs := by
 cases r with
 | mk hg hc hl hlt => exact .mk ((hk _ (by simp [AV.own])).trans hg) hc hl (Nat.lt_of_lt_of_le hlt hn)
/-- An element is read. -/
theorem StkAt.read (r : StkAt h sz v len cs) {i : Nat} (hi : i < len) {t e : TypeId} {b1 : Nat} {b2 : Bool} {b3 : Nat} {b4 : List DV} {ei : TI} (ht : C.T t = some ⟨.slice e, b1, b2, b3, b4⟩) (he : C.T e = some ei) (hs : ei.size = sz)
  {r' : List AV} {x : AV} (hr : takeExact sz (i * sz) cs = some r') (hx : oneOf ei.agg r' = some x) :
  ∃ q, indexAddrA C t v (vint i) = some q ∧ ∀ L, loadA C L h.get e q = some x := by
 have h0 : (0 : Int) ≤ i ∧ (i : Int) < (len : Nat) := ⟨Int.natCast_nonneg i, Int.ofNat_lt.2 hi⟩
 cases r with
 | mk hg hc hl hlt =>
  rename_i id ver full
  refine ⟨_, by simp only [indexAddrA, intOf?, vint, ht, he]; rw [if_pos ⟨hs.symm, h0⟩], fun L => ?_⟩
  simp only [loadA, he, hg, if_true, hs]
  have hb : i * sz + sz ≤ len * sz := by
   have : (i + 1) * sz ≤ len * sz := Nat.mul_le_mul_right _ hi
   rwa [Nat.succ_mul] at this
  have hr2 : takeExact sz (i * sz) full = some r' := by
   rw [← hr, ← hc]
   unfold takeExact
   simp only [drop_take_take hb]
  rw [show 0 + (i : Int).toNat * sz = i * sz by simp, hr2]
  exact hx
theorem StkAt.idx_isL (r : StkAt h sz v len cs) {t : TypeId} {i : Nat} {q : AV} {e : TypeId} {b1 : Nat} {b2 : Bool} {b3 : Nat} {b4 : List DV} {ei : TI} (ht : C.T t = some ⟨.slice e, b1, b2, b3, b4⟩) (he : C.T e = some ei) (hq : indexAddrA C t v (vint i) = some q) : q.isL = false := by
 cases r
 simp only [indexAddrA, intOf?, vint, ht, he] at hq
 split at hq
 ·cases hq; rfl
 ·cases hq
theorem noL_cons {d k : Nat} {v : AV} {r : List (Nat × AV)} (hv : v.isL = false) (hr : noL d r = true) : noL d ((k, v) :: r) = true := by
 cases v <;> first | exact hr | cases hv
theorem noL_l {d k k' off : Nat} {r : List (Nat × AV)} (hk : Nat.beq k' d = false) (hr : noL d r = true) : noL d ((k, .lptr k' off) :: r) = true := by
 simp only [noL, hk, cond_false, hr]
theorem o_boxH {A : FAnn} {ρ : Operand → Option AV} {L : Loc} {H : Nat → Option Obj} {o : Oper} {w : AV} {t : TypeId} {x : Operand} {d : Nat} {ti : TI} (hop : o.op = .box t x) (hd : o.dst = some d) (hx : ρ x = some w) (ht : C.T t = some ti) (hw : w.cells = [w]) (hL : w.isL = false) (hc : w.isCell = true)
  (hs : ti.size = 1) (hh : decide (d ∈ A.heap) = true) : opA C A ρ L H o = some (.newVar [w] t) := by
 unfold opA
 simp only [hop, hd, hx, ht]
 rw [if_neg (by simp [hw, hs, hL, hc]), if_pos (of_decide_eq_true hh), hw]
theorem c_yld {C : Ctx} {env : Env} {o : Oper} {c : Call} {f : Operand} {id : Nat} {as : List AV} (hop : o.op = .call c) (hc : c.callee = .value f) (hf : rho C env f = some (.yld id)) (ha : evalArgs (rho C env) c.args.toList = some as) : callOf C env o = some (.yield id as) := by
 unfold callOf
 simp only [hop, hc, hf, ha, callValA]
theorem r_tmp {σ : SSt} {t : Nat} {v : AV} (h : lk σ.env t = some v) (hl : v.isL = false) : resA C σ.to (.tmp t) = some v := by
 simp only [resA, SSt.to, h, hl]; rfl
theorem allSome1 {α : Type} {a : Option α} {x : α} (h : a = some x) : allSome [a] = some [x] := by subst h; rfl
theorem allSome2 {α : Type} {a b : Option α} {x y : α} (h : a = some x) (h2 : b = some y) : allSome [a, b] = some [x, y] := by subst h; subst h2; rfl
/-- The last element is taken off. -/
theorem StkAt.pop (r : StkAt h sz v (len + 1) cs) {t e : TypeId} {b1 : Nat} {b2 : Bool} {b3 : Nat} {b4 : List DV} {ei : TI} (ht : C.T t = some ⟨.slice e, b1, b2, b3, b4⟩) (he : C.T e = some ei) (hs : ei.size = sz) :
  ∃ v', sliceA C t v none (some (vint len)) = some v' ∧ StkAt h sz v' len (cs.take (len * sz)) ∧ v'.own = v.own := by
 cases r with
 | mk hg hc hl hlt =>
  rename_i id ver full
  subst hs
  have hb : bounds (len + 1) (len + 1) none (some (vint len)) = some (0, len) := by
   simp only [bounds, intOf?, vint]
   rw [if_pos ⟨Int.natCast_nonneg _, by omega⟩]
   simp
  refine ⟨.msl id 0 len ver ei.size, ?_, .mk hg ?_ ?_ hlt, rfl⟩
  ·unfold sliceA
   simp only [ht, he, hb]
   rw [if_pos trivial, if_neg (by omega)]
   simp
  ·rw [← hc, List.take_take, Nat.min_eq_left (Nat.mul_le_mul_right _ (Nat.le_succ _))]
  ·rw [List.length_take, hl, Nat.min_eq_left (Nat.mul_le_mul_right _ (Nat.le_succ _))]
/-- What a stack is when something was pushed. -/
structure Pushed (h : Hp) (v : AV) (sz len : Nat) (cs : List AV) (h' : Hp) (v' : AV) : Prop where
 stk : StkAt h' sz v' len cs
 next : h.next = h'.next
 keep : ∀ id, id ∉ v.own → h'.get id = h.get id
 own : v'.own = v.own
section
variable {t : TypeId} {e : TypeId} {b1 : Nat} {b2 : Bool} {b3 : Nat} {b4 : List DV} {ei t2i : TI} {x : AV} {n : Nat} {new : List AV} {c : Call}
theorem s_push (r : StkAt h sz v len cs) (hw : wantedA ops (lk env) o = some true) (hop : o.op = .call c) (hcal : c.callee = .builtin .append) (hargs : evalArgs (rho C (lk env)) c.args.toList = some [v, x]) (htt : c.argTypes[0]? = some t)
  (hT : C.T t = some ⟨.slice e, b1, b2, b3, b4⟩) (hT2 : (c.argTypes[1]?).bind C.T = some t2i) (ha : appendable t2i.k = true) (hE : C.T e = some ei) (hs : ei.size = sz) (hb : ei.bytes ≤ 2 ^ 16)
  (hn : lenA h.get x = some n) (hx : elemsOf h.get sz x = some new) (hc : new.all AV.isCell = true) (hle : n ≤ 2 ^ 26) (hl : new.length = n * sz) (hlen : len ≤ 2 ^ 26) (hd : o.dst = some d) (ho : okS X d = true)
  (hk : ∀ h' v', Pushed h v sz (len + n) (cs ++ new) h' v' → wpL C Or Xo X ops l (k + 1) ⟨(d, v') :: env, loc, h'⟩ K) : wpL C Or Xo X ops (o :: l) k ⟨env, loc, h⟩ K := by
 subst hs
 cases r with
 | mk hg hcs hcl hlt =>
  rename_i id ver full
  have h2 : n * ei.bytes ≤ 2 ^ 26 * 2 ^ 16 := Nat.mul_le_mul hle hb
  have h3 : (len + n) * ei.bytes ≤ 2 ^ 27 * 2 ^ 16 := Nat.mul_le_mul (by omega) hb
  have h4 : len * ei.size ≤ full.length := by
   have : (full.take (len * ei.size)).length = len * ei.size := by rw [hcs, hcl]
   rw [List.length_take] at this
   omega
  have happ : appendA C h.get t c.argTypes[1]? (.msl id 0 len ver ei.size) x = some (.grow id (cs ++ new) (ver + 1) (.msl id 0 (len + n) (ver + 1) ei.size) e) := by
   unfold appendA
   simp only [hT, hT2, hE, hn, hx]
   rw [if_neg (by
    rintro (h | h | h | h | h | h)
    ·rw [hc] at h; cases h
    ·omega
    ·omega
    ·omega
    ·rw [ha] at h; cases h
    ·exact h hl)]
   simp only [hg]
   rw [if_pos ⟨trivial, trivial, trivial, h4, by omega, by omega⟩, hcs]
  refine s_grow hw (o_append hop hcal hargs htt happ) hd ho (hk _ _ ⟨.of (if_pos rfl) (by simp [hl, hcl, Nat.add_mul]) hlt, rfl, fun i h1 => ?_, rfl⟩)
  rw [Hp.get_grown, if_neg (by simpa [AV.own] using h1)]
end
end
end Go.Dv
/- Maps from numbers to values. -/
namespace Go.Dv
/-- The entries of a map whose keys are numbers. -/
def ents {α : Type} (f : α → AV) (m : List (Nat × α)) : List (DV × AV) := m.map fun q => (.int .i64 (q.1 : Nat), f q.2)
def getN {α : Type} (m : List (Nat × α)) (n : Nat) : Option α :=
 match m with
 | [] => none
 | (k, v) :: r => if k = n then some v else getN r n
def putN {α : Type} (m : List (Nat × α)) (n : Nat) (x : α) : List (Nat × α) :=
 match m with
 | [] => [(n, x)]
 | (k, v) :: r => if k = n then (n, x) :: r else (k, v) :: putN r n x
theorem scalEq_nat (a b : Nat) : scalEq (.int .i64 (a : Nat)) (.int .i64 (b : Nat)) = some (decide (b = a)) := by
 simp only [scalEq, if_true, Option.some.injEq]
 by_cases h : b = a
 ·subst h; simp
 ·rw [decide_eq_false h, beq_eq_false_iff_ne]
  exact fun h1 => h (Int.ofNat_inj.1 h1).symm
theorem findE_ents {α : Type} {f : α → AV} (n : Nat) : ∀ (m : List (Nat × α)), findE (.int .i64 (n : Nat)) (ents f m) = some ((getN m n).map f)
 | [] => rfl
 | (k, v) :: r => by
  have ih := findE_ents (f := f) n r
  simp only [ents, List.map_cons, findE, scalEq_nat, getN] at ih ⊢
  by_cases h : k = n
  ·simp [h]
  ·simp only [h, decide_false, if_false]; exact ih
theorem putE_ents {α : Type} {f : α → AV} (n : Nat) (x : α) : ∀ (m : List (Nat × α)), putE (.int .i64 (n : Nat)) (f x) (ents f m) = some (ents f (putN m n x))
 | [] => rfl
 | (k, v) :: r => by
  have ih := putE_ents (f := f) n x r
  simp only [ents, List.map_cons, putE, scalEq_nat, putN] at ih ⊢
  by_cases h : k = n
  ·subst h; simp
  ·simp only [h, decide_false, if_false, ih, Option.map_some, List.map_cons]
section
variable {C : Ctx} {A : FAnn} {ρ : Operand → Option AV} {L : Loc} {H : Nat → Option Obj} {o : Oper} {α : Type} {f : α → AV} {m : List (Nat × α)} {id n : Nat} {t kt e : TypeId} {a1 b1 c1 : Nat} {a2 b2 c2 : Bool} {a3 b3 c3 : Nat} {a4 b4 c4 : List DV} {ki : IntKind} {ei : TI} {x k w : Operand}
theorem o_lookup (hop : o.op = .lookup t x k false) (hx : ρ x = some (.map id)) (hk : ρ k = some (vint (n : Nat))) (ht : C.T t = some ⟨.map kt e, a1, a2, a3, a4⟩) (hkt : C.T kt = some ⟨.int ki, b1, b2, b3, b4⟩) (he : C.T e = some ei) (hg : H id = some (.map (ents f m)))
  {z : AV} (hz : oneOfD ei.agg ei.zero = some z) : opA C A ρ L H o = some (.val (((getN m n).map f).getD z)) := by
 unfold opA
 simp only [hop, hx, hk, lookupA, vint, ht, he, entriesA, hg, keyOk, hkt, if_true, findE_ents, hz]
 cases getN m n <;> rfl
theorem o_lookupOk (hop : o.op = .lookup t x k true) (hx : ρ x = some (.map id)) (hk : ρ k = some (vint (n : Nat))) (ht : C.T t = some ⟨.map kt e, a1, a2, a3, a4⟩) (hkt : C.T kt = some ⟨.int ki, b1, b2, b3, b4⟩) (he : C.T e = some ei) (hg : H id = some (.map (ents f m)))
  {z : AV} (hz : oneOfD ei.agg ei.zero = some z) : opA C A ρ L H o = some (.val (.tuple [((getN m n).map f).getD z, vbool (getN m n).isSome])) := by
 unfold opA
 simp only [hop, hx, hk, lookupA, vint, ht, he, entriesA, hg, keyOk, hkt, if_true, findE_ents, hz]
 cases getN m n <;> rfl
theorem o_mapUp {v : α} {u : AV} (hop : o.op = .mapUpdate t x k w) (hx : ρ x = some (.map id)) (hk : ρ k = some (vint (n : Nat))) (hw : ρ w = some u) (hu : u = f v) (ht : C.T t = some ⟨.map kt e, a1, a2, a3, a4⟩) (hkt : C.T kt = some ⟨.int ki, b1, b2, b3, b4⟩) (hg : H id = some (.map (ents f m)))
  (hL : (f v).isL = false) : opA C A ρ L H o = some (.setH id (.map (ents f (putN m n v))) none) := by
 subst hu
 unfold opA
 simp only [hop, hx, hk, hw, mapUpdateA, vint, ht, hg, keyOk, hkt, hL, putE_ents]
 rfl
end
end Go.Dv
