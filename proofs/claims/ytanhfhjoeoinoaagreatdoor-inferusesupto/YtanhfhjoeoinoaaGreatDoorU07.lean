/- A part of the proof of InferUses, second form: for every input of bulk at most 1048576 the call returns true and the arguments read as they did. Its condition: that bulk. -/
import Derived.Test.YtanhfhjoeoinoaaGreatDoorU06
/- The tables of types, worked out of the program. -/
namespace Go.Dv
def undv : Value → Option DV
 | .bool b => some (.bool b)
 | .int k n => some (.int k n)
 | .string s => some (.str s.data.toList)
 | .pointer none => some .nilptr
 | .slice none 0 0 => some .nilslice
 | .map none => some .nilmap
 | .nilFunc => some .nilfunc
 | .nilIface => some .niliface
 | _ => none
theorem undv_spec {v : Value} {x : DV} (h : undv v = some x) : dval x = v ∧ dplain x = true := by
 unfold undv at h
 split at h <;> simp at h <;> subst h <;> exact ⟨rfl, rfl⟩
def undvL : List Value → Option (List DV)
 | [] => some []
 | v :: r => match undv v, undvL r with
  | some x, some l => some (x :: l)
  | _, _ => none
theorem undvL_spec : ∀ {vs : List Value} {l : List DV}, undvL vs = some l → l.map dval = vs ∧ ∀ x ∈ l, dplain x = true
 | [], l, h => by simp [undvL] at h; subst h; simp
 | v :: r, l, h => by
  simp only [undvL] at h
  split at h
  ·rename_i x l' hx hl
   simp at h; subst h
   obtain ⟨h1, h2⟩ := undvL_spec hl
   obtain ⟨h3, h4⟩ := undv_spec hx
   refine ⟨by simp [h1, h3], fun y hy => ?_⟩
   rcases List.mem_cons.1 hy with rfl | hy
   ·exact h4
   ·exact h2 y hy
  ·cases h
def fieldsT (P : Program) : List Field → Option (List (Nat × Nat × Bool))
 | [] => some []
 | f :: r => match P.info? f.type, P.underlying f.type, fieldsT P r with
  | some i, some d, some l => if i.size = 0 ∨ f.name = "_" then none else some ((f.offset, i.size, isAggD d) :: l)
  | _, _, _ => none
theorem fieldsT_spec {P : Program} : ∀ {fs : List Field} {l : List (Nat × Nat × Bool)}, fieldsT P fs = some l →
  fs.length = l.length ∧ ∀ (i : Nat) f x, fs[i]? = some f → l[i]? = some x → fieldOk P f x
 | [], l, h => by simp [fieldsT] at h; subst h; simp
 | f :: r, l, h => by
  simp only [fieldsT] at h
  split at h
  ·rename_i i d l' hi hd hl
   split at h
   ·cases h
   ·rename_i hc
    simp at h; subst h
    obtain ⟨h1, h2⟩ := fieldsT_spec hl
    refine ⟨by simp [h1], fun k g x hg hx => ?_⟩
    cases k with
    | zero =>
     simp at hg hx; subst hg; subst hx
     exact ⟨rfl, fun h0 => hc (.inl h0), fun h0 => hc (.inr h0), i, d, hi, rfl, hd, rfl⟩
    | succ k => exact h2 k g x (by simpa using hg) (by simpa using hx)
  ·cases h
def tkOf (P : Program) : TypeDesc → Option TK
 | .int k => some (.int k)
 | .string => some .string
 | .bool => some .bool
 | .pointer e => some (.pointer e)
 | .slice e => some (.slice e)
 | .array n e => if 2 ≤ n then some (.array n e) else none
 | .struct fs => (fieldsT P fs.toList).map .struct
 | .map k e => some (.map k e)
 | .func _ _ _ => some .func
 | .interface _ => some .iface
 | .unsafePointer => some .unsafePointer
 | _ => some .other
theorem tkOf_spec {P : Program} {d : TypeDesc} {k : TK} (h : tkOf P d = some k) : KOk P d k := by
 unfold tkOf at h
 split at h <;> first
  | (simp at h; subst h; simp [KOk]; done)
  | skip
 ·split at h
  ·rename_i h2; simp at h; subst h; exact ⟨rfl, rfl, h2⟩
  ·cases h
 ·simp only [Option.map_eq_some_iff] at h
  obtain ⟨l, hl, rfl⟩ := h
  obtain ⟨h1, h2⟩ := fieldsT_spec hl
  exact ⟨by simpa using h1, fun i f x hf hx => h2 i f x (by simpa using hf) hx⟩
def tiOf (P : Program) (t : TypeId) : Option TI :=
 match P.info? t, P.underlying t with
 | some i, some d => match tkOf P d, i.zero with
  | some k, some z => match isAggD d with
   | true => match z with
    | .agg cs => match undvL cs.toList with
     | some l => if l.length = i.size then some ⟨k, i.size, true, i.bytes, l⟩ else none
     | none => none
    | _ => none
   | false => match undv z with
    | some x => if i.size = 1 then some ⟨k, 1, false, i.bytes, [x]⟩ else none
    | none => none
  | _, _ => none
 | _, _ => none
theorem tiOf_spec {P : Program} {t : TypeId} {ti : TI} (h : tiOf P t = some ti) : TOk P t ti := by
 unfold tiOf at h
 split at h
 ·rename_i i d hi hd
  split at h
  ·rename_i k z hk hz
   split at h
   ·rename_i hagg
    split at h
    ·rename_i cs
     split at h
     ·rename_i l hl
      split at h
      ·rename_i hlen
       simp at h; subst h
       obtain ⟨h1, h2⟩ := undvL_spec hl
       refine ⟨⟨i, hi, rfl, rfl, ?_, hlen, fun h0 => by cases h0⟩, h2, d, hd, tkOf_spec hk, hagg.symm⟩
       simp only [if_true, h1]
       exact hz
      ·cases h
     ·cases h
    ·cases h
   ·rename_i hagg
    split at h
    ·rename_i x hx
     split at h
     ·rename_i hs
      simp at h; subst h
      obtain ⟨h1, h2⟩ := undv_spec hx
      refine ⟨⟨i, hi, hs, rfl, ?_, rfl, fun _ => rfl⟩, fun y hy => ?_, d, hd, tkOf_spec hk, hagg.symm⟩
      ·simp only [Bool.false_eq_true, if_false, List.headD_cons, h1]; exact hz
      ·simp at hy; subst hy; exact h2
     ·cases h
    ·cases h
  ·cases h
 ·cases h
def eqKinds (P : Program) : Nat → List Field → Option (List TK)
 | _, [] => some []
 | i, f :: r => match P.underlying f.type, eqKinds P (i + 1) r with
  | some d, some l => if f.offset = i ∧ f.name ≠ "_" then match d with
    | .int k => some (.int k :: l)
    | .string => some (.string :: l)
    | .bool => some (.bool :: l)
    | _ => none
   else none
  | _, _ => none
theorem eqKinds_spec {P : Program} : ∀ {fs : List Field} {k : Nat} {l : List TK}, eqKinds P k fs = some l → fs.length = l.length ∧
  ∀ (i : Nat) f x, fs[i]? = some f → l[i]? = some x → f.offset = k + i ∧ f.name ≠ "_" ∧ ∃ d, P.underlying f.type = some d ∧ kindOk d x = true
 | [], k, l, h => by simp [eqKinds] at h; subst h; simp
 | f :: r, k, l, h => by
  simp only [eqKinds] at h
  split at h
  ·rename_i d l' hd hl
   split at h
   ·rename_i hc
    obtain ⟨h1, h2⟩ := eqKinds_spec hl
    have key : ∀ x, kindOk d x = true → l = x :: l' → (f :: r).length = l.length ∧ ∀ (i : Nat) g y, (f :: r)[i]? = some g → l[i]? = some y → g.offset = k + i ∧ g.name ≠ "_" ∧ ∃ d, P.underlying g.type = some d ∧ kindOk d y = true := by
     rintro x hx rfl
     refine ⟨by simp [h1], fun i g y hg hy => ?_⟩
     cases i with
     | zero => simp at hg hy; subst hg; subst hy; exact ⟨hc.1, hc.2, d, hd, hx⟩
     | succ i =>
      have := h2 i g y (by simpa using hg) (by simpa using hy)
      exact ⟨by omega, this.2⟩
    split at h
    ·simp at h; exact key _ rfl h.symm
    ·simp at h; exact key _ rfl h.symm
    ·simp at h; exact key _ rfl h.symm
    ·cases h
   ·cases h
  ·cases h
def eqOf (P : Program) (t : TypeId) : Option (List TK) :=
 match P.underlying t with
 | some (.struct fs) => match P.eqGuardType P.depth t, P.stoodInHeld t with
  | false, false => eqKinds P 0 fs.toList
  | _, _ => none
 | _ => none
theorem eqOf_spec {P : Program} {t : TypeId} {ks : List TK} (h : eqOf P t = some ks) : P.eqGuardType P.depth t = false ∧ P.stoodInHeld t = false ∧
  ∃ fs, P.underlying t = some (.struct fs) ∧ fs.size = ks.length ∧ ∀ (i : Nat) f k, fs[i]? = some f → ks[i]? = some k → f.offset = i ∧ f.name ≠ "_" ∧ ∃ d, P.underlying f.type = some d ∧ kindOk d k = true := by
 unfold eqOf at h
 split at h
 ·rename_i fs hu
  split at h
  ·rename_i h1 h2
   obtain ⟨h3, h4⟩ := eqKinds_spec h
   exact ⟨h1, h2, fs, hu, by simpa using h3, fun i f k hf hk => by simpa using h4 i f k (by simpa using hf) hk⟩
  ·cases h
 ·cases h
end Go.Dv
/- One operation of a row by itself; what it looks at. -/
namespace Go.Dv
section
variable (C : Ctx) (Or : FuncId → List AV → Hp → AV → Hp → Prop) (Xo : FuncId → List AV → AV → Prop)
/-- One operation of a row. -/
inductive One (X : Fr) (ops : Array Oper) (i : Nat) : St → St → Prop
 | off {σ o E} (ho : ops[i]? = some o) (hg : wantedA ops σ.env o = some false) (hE : putD X.n σ.env o.dst (.tuple []) = some E) : One X ops i σ { σ with env := E }
 | op {σ o eff σ₁} (ho : ops[i]? = some o) (hg : wantedA ops σ.env o = some true)
   (he : opA C X.A (rho C σ.env) σ.loc σ.h.get o = some eff) (ha : applyEff X.A X.n o.dst σ eff = some σ₁) : One X ops i σ σ₁
 | call {σ o f args v h' σ₁} (ho : ops[i]? = some o) (hg : wantedA ops σ.env o = some true)
   (hcall : callOf C σ.env o = some (.call f args)) (hc : Big C Or Xo (.call f args σ.h) (.ret v h'))
   (ha : putV X.A X.n o.dst { σ with h := h' } v = some σ₁) : One X ops i σ σ₁
 | ext {σ o f args v σ₁} (ho : ops[i]? = some o) (hg : wantedA ops σ.env o = some true)
   (hcall : callOf C σ.env o = some (.call f args)) (hx : Xo f args v)
   (ha : putV X.A X.n o.dst σ v = some σ₁) : One X ops i σ σ₁
 | conv {σ o src dst x id off ver σ₁} (ho : ops[i]? = some o) (hg : wantedA ops σ.env o = some true) (hop : o.op = .convert src dst x)
   (hx : rho C σ.env x = some (.ptr id off ver)) (hc : convP C σ.h src dst id off ver = true) (ha : putV X.A X.n o.dst σ (.ptr id off ver) = some σ₁) : One X ops i σ σ₁
 | str {σ o c id off ver n s σ₁} (ho : ops[i]? = some o) (hg : wantedA ops σ.env o = some true) (hop : o.op = .call c) (hcal : c.callee = .builtin .unsafeString)
   (hx : evalArgs (rho C σ.env) c.args.toList = some [.ptr id off ver, .d (.int .i64 n)]) (hs : strP C σ.h c.argTypes id off ver n = some s)
   (ha : putV X.A X.n o.dst { σ with h := σ.h.del id } (.d (.str s)) = some σ₁) : One X ops i σ σ₁
 | yield {σ o id args rec env σ₁ rec₁ e σ₂ rec₂ σ₃} (ho : ops[i]? = some o) (hg : wantedA ops σ.env o = some true)
   (hcall : callOf C σ.env o = some (.yield id args))
   (hr : σ.h.get id = some (.loop rec)) (hp : assignP rec.n rec.params.toList args (envOf rec.env) = some env)
   (h1 : Big C Or Xo (.code ⟨rec.fn, rec.n, C.A rec.fn, some id⟩ rec.assign ⟨env, emptyLoc, σ.h⟩) (.code .normal σ₁))
   (hr1 : σ₁.h.get id = some (.loop rec₁)) (hs : rec₁.state = .ready)
   (h2 : Big C Or Xo (.code ⟨rec.fn, rec.n, C.A rec.fn, some id⟩ rec.body ⟨σ₁.env, σ₁.loc, σ₁.h.set id (.loop { rec₁ with state := .busy })⟩) (.code e σ₂))
   (hr2 : σ₂.h.get id = some (.loop rec₂))
   (ha : putV X.A X.n o.dst { σ with h := σ₂.h.set id (.loop { rec₂ with state := if e = .normal then .ready else .done, pending := e.code }) } (vbool (e = .normal)) = some σ₃) :
   One X ops i σ σ₃
end
section
variable {C : Ctx} {Or : FuncId → List AV → Hp → AV → Hp → Prop} {Xo : FuncId → List AV → AV → Prop} {X : Fr} {ops : Array Oper} {i : Nat} {σ σ' τ τ' : St} {A : FAnn}
theorem One.big {l : List Nat} {r : Res} (h : One C Or Xo X ops i σ σ') (hr : Big C Or Xo (.ops X ops l σ') r) : Big C Or Xo (.ops X ops (i :: l) σ) r := by
 cases h with
 | off ho hg hE => exact .opsOff ho hg hE hr
 | op ho hg he ha => exact .opsOp ho hg he ha hr
 | call ho hg hcall hc ha => exact .opsCall ho hg hcall hc ha hr
 | ext ho hg hcall hx ha => exact .opsExt ho hg hcall hx ha hr
 | conv ho hg hop hx hc ha => exact .opsConv ho hg hop hx hc ha hr
 | str ho hg hop hcal hx hs ha => exact .opsStr ho hg hop hcal hx hs ha hr
 | yield ho hg hcall hr0 hp h1 hr1 hs h2 hr2 ha => exact .opsYield ho hg hcall hr0 hp h1 hr1 hs h2 hr2 ha hr
/-- Memories agree on what an operation's operands lead to. -/
def LocAt (xs : List Operand) (ρ : Operand → Option AV) (L L' : Loc) : Prop := ∀ x ∈ xs, ∀ key off, ρ x = some (.lptr key off) → L key = L' key
theorem evalArgs_congr {ρ ρ' : Operand → Option AV} : ∀ {xs : List Operand}, (∀ x ∈ xs, ρ x = ρ' x) → evalArgs ρ xs = evalArgs ρ' xs
 | [], _ => rfl
 | x :: r, h => by
  simp only [evalArgs]
  rw [h x (by simp), evalArgs_congr (xs := r) (fun y hy => h y (by simp [hy]))]
theorem evalAll_congr {ρ ρ' : Operand → Option AV} : ∀ {xs : List (Nat × Operand)}, (∀ x ∈ xs, ρ x.2 = ρ' x.2) → evalAll ρ xs = evalAll ρ' xs
 | [], _ => rfl
 | (k, x) :: r, h => by
  simp only [evalAll]
  rw [h (k, x) (by simp), evalAll_congr (xs := r) (fun y hy => h y (by simp [hy]))]
theorem loadA_loc {t : TypeId} {p : AV} {L L' : Loc} {H : Nat → Option Obj} (h : ∀ key off, p = .lptr key off → L key = L' key) : loadA C L H t p = loadA C L' H t p := by
 cases p with
 | lptr key off => simp only [loadA]; rw [h _ _ rfl]
 | d x => cases x <;> rfl
 | _ => rfl
theorem storeA_loc {t : TypeId} {p x : AV} {L L' : Loc} {H : Nat → Option Obj} (h : ∀ key off, p = .lptr key off → L key = L' key) : storeA C L H t p x = storeA C L' H t p x := by
 cases p with
 | lptr key off => simp only [storeA]; rw [h _ _ rfl]
 | _ => rfl
set_option maxHeartbeats 1000000 in
theorem opA_congr {o : Oper} {ρ ρ' : Operand → Option AV} {L L' : Loc} {H : Nat → Option Obj} (h : ∀ x ∈ o.op.operands.toList, ρ x = ρ' x) (hl : LocAt o.op.operands.toList ρ L L') :
  opA C A ρ L H o = opA C A ρ' L' H o := by
 unfold opA
 cases hop : o.op <;> rw [hop] at h hl <;> simp only [Op.operands] at h hl <;> try rfl
 case move x => simp only [h x (by simp)]
 case assign x => simp only [h x (by simp)]
 case pick c a b => simp only [h c (by simp), h a (by simp), h b (by simp)]
 case box t x => simp only [h x (by simp)]
 case build t parts =>
  have : evalAll ρ parts.toList = evalAll ρ' parts.toList := evalAll_congr fun x hx => h x.2 (by
   simp only [List.mem_map]; exact ⟨x, hx, rfl⟩)
  simp only [this]
 case buildSlice t len parts =>
  have : evalAll ρ parts.toList = evalAll ρ' parts.toList := evalAll_congr fun x hx => h x.2 (by
   simp only [List.mem_map]; exact ⟨x, hx, rfl⟩)
  simp only [this]
 case load t x =>
  have h1 := h x (by simp)
  simp only [← h1]
  cases hp : ρ x with
  | none => rfl
  | some v => simp only; rw [loadA_loc (L := L) (L' := L')]; intro key off hv; exact hl x (by simp) key off (by rw [hp, hv])
 case store t x y =>
  have h1 := h x (by simp)
  have h2 := h y (by simp)
  simp only [← h1, ← h2]
  cases hp : ρ x with
  | none => rfl
  | some v =>
   cases hq : ρ y with
   | none => rfl
   | some u => simp only; exact storeA_loc fun key off hv => hl x (by simp) key off (by rw [hp, hv])
 case nilCheck x => simp only [h x (by simp)]
 case binOp op t x y yt => simp only [h x (by simp), h y (by simp)]
 case unOp op t x => simp only [h x (by simp)]
 case convert s d x => simp only [h x (by simp)]
 case makeInterface t x => simp only [h x (by simp)]
 case makeFunc f first cap =>
  cases f <;> try rfl
  have h1 : evalArgs ρ first.toList = evalArgs ρ' first.toList := evalArgs_congr fun x hx => h x (by simp; exact .inl (by simpa using hx))
  have h2 : evalArgs ρ cap.toList = evalArgs ρ' cap.toList := evalArgs_congr fun x hx => h x (by simp; exact .inr (by simpa using hx))
  simp only [h1, h2]
 case makeMap t r =>
  cases r with
  | none => rfl
  | some x => simp only [h x (by simp)]
 case makeSlice t x y => simp only [h x (by simp), h y (by simp)]
 case slice t x lo hi m =>
  have hx := h x (by simp)
  cases m with
  | some _ => rfl
  | none =>
   cases lo with
   | none => cases hi with
    | none => simp only [hx]
    | some z => simp only [hx, h z (by simp)]
   | some y =>
    have hy := h y (by simp)
    cases hi with
    | none => simp only [hx, hy]
    | some z => simp only [hx, hy, h z (by simp)]
 case fieldAddr s x f => simp only [h x (by simp)]
 case field s x f => simp only [h x (by simp)]
 case indexAddr t x y => simp only [h x (by simp), h y (by simp)]
 case index t x y => simp only [h x (by simp), h y (by simp)]
 case lookup t x k ok => simp only [h x (by simp), h k (by simp)]
 case mapUpdate t m k x => simp only [h m (by simp), h k (by simp), h x (by simp)]
 case extract x k => simp only [h x (by simp)]
 case panic x => simp only [h x (by simp)]
 case call c =>
  have hargs : evalArgs ρ c.args.toList = evalArgs ρ' c.args.toList := evalArgs_congr fun x hx => h x (by
   simp only [Call.operands]
   cases c.callee <;> simp_all)
  simp only [hargs]
  cases hc : c.callee with
  | value f =>
   have hf : ρ f = ρ' f := h f (by simp only [Call.operands, hc]; simp)
   simp only [hf]
  | builtin b => cases b <;> rfl
  | invoke r n => rfl
end
end Go.Dv
/- One operation in another state that agrees with the first one on what is looked at. -/
namespace Go.Dv
def mix (dst : Option Nat) (e e' : Env) : Env := fun t => if dst = some t then e' t else e t
def updO (L : Loc) : Option (Nat × List AV) → Loc
  | none => L
  | some (k, cs) => upd L k cs
section
variable {C : Ctx} {Or : FuncId → List AV → Hp → AV → Hp → Prop} {Xo : FuncId → List AV → AV → Prop} {X : Fr} {ops : Array Oper} {i : Nat} {σ σ' τ τ' : St} {A : FAnn} {n : Nat} {dst : Option Nat}
theorem mix_upd {d : Nat} {e e' : Env} {v : AV} : mix (some d) e (upd e' d v) = upd e d v := by
  funext t; simp only [mix, upd, Option.some.injEq]
  by_cases h : t = d
  · subst h; simp
  · rw [if_neg (fun h' => h h'.symm), if_neg h]
theorem mix_del {d : Nat} {e e' : Env} : mix (some d) e (del e' d) = del e d := by
  funext t; simp only [mix, del, Option.some.injEq]
  by_cases h : t = d
  · subst h; simp
  · rw [if_neg (fun h' => h h'.symm), if_neg h]
theorem mix_none {e e' : Env} : mix none e e' = e := by funext t; simp [mix]
theorem putD_move {e e' E : Env} {v : AV} (h : putD n e dst v = some E) : putD n e' dst v = some (mix dst e' E) ∧ ∀ t, dst ≠ some t → E t = e t := by
  unfold putD at *
  cases dst with
  | none => simp at h; subst h; exact ⟨by simp [mix_none], fun _ _ => rfl⟩
  | some d =>
    simp only at h ⊢
    split at h
    · rename_i hd
      simp at h; subst h
      refine ⟨by rw [if_pos hd, mix_upd], fun t ht => ?_⟩
      simp only [upd]; rw [if_neg (fun h => ht (by rw [h]))]
    · cases h
theorem dropD_move {e e' : Env} : dropD e' dst = mix dst e' (dropD e dst) ∧ ∀ t, dst ≠ some t → (dropD e dst) t = e t := by
  unfold dropD
  cases dst with
  | none => exact ⟨by simp [mix_none], fun _ _ => rfl⟩
  | some d =>
    refine ⟨by rw [mix_del], fun t ht => ?_⟩
    simp only [del]; rw [if_neg (fun h => ht (by rw [h]))]
theorem putV_move {v : AV} (h : putV A n dst τ v = some τ') : τ'.loc = τ.loc ∧ (∀ t, dst ≠ some t → τ'.env t = τ.env t) ∧
    ∀ σ : St, σ.h = τ.h → putV A n dst σ v = some ⟨mix dst σ.env τ'.env, σ.loc, τ'.h⟩ := by
  unfold putV at *
  cases dst with
  | none => simp at h; subst h; exact ⟨rfl, fun _ _ => rfl, fun σ hs => by simp [mix_none, ← hs]⟩
  | some d =>
    simp only at h ⊢
    have key : ∀ (x : AV) (e : Env) t, some d ≠ some t → upd e d x t = e t := fun x e t ht => by
      simp only [upd]; rw [if_neg (fun h => ht (by rw [h]))]
    split at h
    · rename_i hf
      split at h
      · rename_i y h' hz
        split at h
        · rename_i hd
          simp at h; subst h
          refine ⟨rfl, key _ _, fun σ hs => ?_⟩
          simp only [hf, if_true, hs, hz, hd, mix_upd]
        · cases h
      · cases h
    · rename_i hf
      split at h
      · rename_i hd
        simp at h; subst h
        refine ⟨rfl, key _ _, fun σ hs => ?_⟩
        simp only [hf, if_false, hd, if_true, mix_upd]
        rw [← hs]
      · cases h
theorem applyEff_move {eff : Eff} (hh : σ.h = τ.h) (hk : ∀ d cs, dst = some d → eff = .newL cs → noKey d σ.env = σ.env ∧ noKey d τ.env = τ.env)
    (h : applyEff A n dst τ eff = some τ') : ∃ u, applyEff A n dst σ eff = some ⟨mix dst σ.env τ'.env, updO σ.loc u, τ'.h⟩ ∧ τ'.loc = updO τ.loc u ∧
      (∀ t, dst ≠ some t → τ'.env t = τ.env t) ∧ (∀ key cs, u = some (key, cs) → (dst = some key ∧ eff = .newL cs) ∨ eff = .setL key cs) := by
  have noU : ∀ {Q : Nat → List AV → Prop}, ∀ key cs, (none : Option (Nat × List AV)) = some (key, cs) → Q key cs := fun key cs h => by cases h
  unfold applyEff at h
  split at h
  · obtain ⟨h1, h2, h3⟩ := putV_move h
    exact ⟨none, by simpa only [applyEff, updO] using h3 σ hh, h1, h2, noU⟩
  · simp only [Option.some.injEq] at h; subst h
    have := dropD_move (dst := dst) (e := τ.env) (e' := σ.env)
    exact ⟨none, by simp only [applyEff, updO, this.1, hh], rfl, this.2, noU⟩
  · split at h
    · rename_i cells _ d
      split at h
      · rename_i hd
        simp only [Option.some.injEq] at h; subst h
        obtain ⟨k1, k2⟩ := hk _ _ rfl rfl
        refine ⟨some (d, cells), ?_, rfl, fun t ht => ?_, fun key cs h => ?_⟩
        · simp only [applyEff, hd, if_true, k1, mix_upd, updO, hh]
        · simp only [upd, k2]; rw [if_neg (fun h => ht (by rw [h]))]
        · simp only [Option.some.injEq, Prod.mk.injEq] at h; obtain ⟨rfl, rfl⟩ := h; exact .inl ⟨rfl, rfl⟩
      · cases h
    · cases h
  · rename_i key cells
    simp only [Option.some.injEq] at h; subst h
    have := dropD_move (dst := dst) (e := τ.env) (e' := σ.env)
    refine ⟨some (key, cells), by simp only [applyEff, updO, this.1, hh], rfl, this.2, fun key cs h => ?_⟩
    simp only [Option.some.injEq, Prod.mk.injEq] at h; obtain ⟨rfl, rfl⟩ := h; exact .inr rfl
  · simp only [Option.map_eq_some_iff] at h
    obtain ⟨E, hE, rfl⟩ := h
    obtain ⟨h1, h2⟩ := putD_move (e' := σ.env) hE
    exact ⟨none, by simp only [applyEff, hh, h1, Option.map_some, updO], rfl, h2, noU⟩
  · obtain ⟨h1, h2, h3⟩ := putV_move h
    exact ⟨none, by simpa only [applyEff, updO, hh] using h3 { σ with h := _ } rfl, h1, h2, noU⟩
  · simp only [Option.map_eq_some_iff] at h
    obtain ⟨E, hE, rfl⟩ := h
    obtain ⟨h1, h2⟩ := putD_move (e' := σ.env) hE
    exact ⟨none, by simp only [applyEff, hh, h1, Option.map_some, updO], rfl, h2, noU⟩
  · simp only [Option.map_eq_some_iff] at h
    obtain ⟨E, hE, rfl⟩ := h
    obtain ⟨h1, h2⟩ := putD_move (e' := σ.env) hE
    exact ⟨none, by simp only [applyEff, hh, h1, Option.map_some, updO], rfl, h2, noU⟩
  · simp only [Option.some.injEq] at h; subst h
    have := dropD_move (dst := dst) (e := τ.env) (e' := σ.env)
    exact ⟨none, by simp only [applyEff, updO, this.1, hh], rfl, this.2, noU⟩
  · obtain ⟨h1, h2, h3⟩ := putV_move h
    exact ⟨none, by simpa only [applyEff, updO, hh] using h3 { σ with h := _ } rfl, h1, h2, noU⟩
  · cases h
end
def isNew (o : Oper) : Bool :=
  match o.op with
  | .alloc _ => true
  | .box _ _ => true
  | _ => false
section
variable {C : Ctx} {A : FAnn} {ρ : Operand → Option AV} {L : Loc} {H : Nat → Option Obj} {o : Oper}
theorem map_val_ne {f : Option AV} {eff : Eff} (h : f.map Eff.val = some eff) : ∃ v, eff = .val v := by
  obtain ⟨v, _, h2⟩ := map_some_val h; exact ⟨v, h2⟩
/-- Only an allocation makes a local variable; only a store writes one. -/
def locEff (A : FAnn) (o : Oper) (ρ : Operand → Option AV) : Eff → Prop
  | .newL _ => isNew o = true ∧ ∀ d, o.dst = some d → d ∉ A.heap
  | .setL key _ => ∃ t p x off, o.op = .store t p x ∧ ρ p = some (.lptr key off)
  | _ => True
theorem locEff_val {v : AV} : locEff A o ρ (.val v) := trivial
theorem opA_loc {eff : Eff} (h : opA C A ρ L H o = some eff) : locEff A o ρ eff := by
  cases hop : o.op
  case store t p x =>
    unfold opA at h
    simp only [hop] at h
    split at h
    · rename_i pv v hp hv
      unfold storeA at h
      split at h
      · cases h
      · simp only at h
        split at h
        · cases h
        · split at h
          · split at h
            · split at h
              · simp only [Option.some.injEq] at h; subst h
                exact ⟨t, p, x, _, hop, hp⟩
              · cases h
            · cases h
          · split at h
            · split at h
              · simp only [Option.some.injEq] at h; subst h; trivial
              · cases h
            · cases h
          · cases h
    · cases h
  case alloc t =>
    unfold opA at h
    simp only [hop] at h
    split at h
    · rename_i d z hd hz
      split at h
      · simp only [Option.some.injEq] at h; subst h; trivial
      · rename_i hn
        simp only [Option.some.injEq] at h; subst h
        exact ⟨by simp [isNew, hop], fun d' hd' => by rw [hd] at hd'; cases hd'; exact hn⟩
    · cases h
  case box t x =>
    unfold opA at h
    simp only [hop] at h
    split at h
    · rename_i d v ti hd hv hti
      split at h
      · cases h
      · split at h
        · simp only [Option.some.injEq] at h; subst h; trivial
        · rename_i hn
          simp only [Option.some.injEq] at h; subst h
          exact ⟨by simp [isNew, hop], fun d' hd' => by rw [hd] at hd'; cases hd'; exact hn⟩
    · cases h
  case convert s d x =>
    unfold opA at h
    simp only [hop, convertA] at h
    repeat' (split at h)
    all_goals first | (cases h; done) | (simp only [Option.some.injEq] at h; subst h; first | exact locEff_val | trivial)
  case mapUpdate t mm k x =>
    unfold opA at h
    simp only [hop, mapUpdateA] at h
    repeat' (split at h)
    all_goals first | (cases h; done) | (simp only [Option.some.injEq] at h; subst h; first | exact locEff_val | trivial)
  case call c =>
    unfold opA at h
    simp only [hop, appendA, deleteA, callValA] at h
    repeat' (split at h)
    all_goals first | (cases h; done) | (simp only [Option.some.injEq] at h; subst h; first | exact locEff_val | trivial) | (simp only [Option.map_eq_some_iff] at h; obtain ⟨_, _, rfl⟩ := h; trivial)
  all_goals
    unfold opA at h
    simp only [hop] at h
    first
      | (cases h; done)
      | (have hx := map_val_ne h; obtain ⟨v, hv⟩ := hx; rw [hv]; exact locEff_val)
      | (repeat' (split at h)
         all_goals first | (cases h; done) | (have hx := map_val_ne h; obtain ⟨v, hv⟩ := hx; rw [hv]; exact locEff_val) | (simp only [Option.some.injEq] at h; subst h; first | exact locEff_val | trivial) | (exfalso; simp_all; done))
end
end Go.Dv
/- An operation in another state. -/
namespace Go.Dv
section
variable {C : Ctx} {Or : FuncId → List AV → Hp → AV → Hp → Prop} {Xo : FuncId → List AV → AV → Prop} {X : Fr} {ops : Array Oper} {i : Nat} {σ σ' τ τ' : St} {A : FAnn} {n : Nat} {dst : Option Nat} {o : Oper}
theorem rho_congr {e e' : Env} {x : Operand} (h : ∀ t, x = .tmp t → e t = e' t) : rho C e x = rho C e' x := by
 cases x <;> simp only [rho]
 exact h _ rfl
theorem looks_op {t : Nat} (h : Operand.tmp t ∈ o.op.operands.toList) : t ∈ o.looksAt ops :=
 List.mem_append_left _ (List.mem_filterMap.2 ⟨.tmp t, h, rfl⟩)
theorem rho_looks {e e' : Env} (henv : ∀ t ∈ o.looksAt ops, e t = e' t) : ∀ x ∈ o.op.operands.toList, rho C e x = rho C e' x :=
 fun x hx => rho_congr fun t ht => henv t (looks_op (by rw [← ht]; exact hx))
theorem wanted_looks {e e' : Env} (henv : ∀ t ∈ o.looksAt ops, e t = e' t) : wantedA ops e o = wantedA ops e' o := by
 unfold wantedA
 cases hg : o.guard with
 | none => rfl
 | some p =>
  obtain ⟨j, want⟩ := p
  simp only
  cases hj : ops[j]? with
  | none => rfl
  | some g =>
   simp only
   cases hd : g.dst with
   | none => rfl
   | some d =>
    simp only
    rw [henv d (by
     simp only [Oper.looksAt, List.mem_append]
     right
     simp [hg, hj, hd])]
theorem callOf_looks {e e' : Env} (henv : ∀ t ∈ o.looksAt ops, e t = e' t) : callOf C e o = callOf C e' o := by
 have h := rho_looks (C := C) henv
 unfold callOf
 cases hop : o.op <;> try rfl
 rename_i c
 rw [hop] at h
 simp only [Op.operands, Call.operands] at h
 cases hc : c.callee with
 | value f =>
  simp only [hc]
  rw [h f (by simp [hc]), evalArgs_congr (ρ := rho C e) (ρ' := rho C e') (fun x hx => h x (by simp [hc]; right; simpa using hx))]
 | _ => simp only [hc]
theorem args_looks {e e' : Env} (henv : ∀ t ∈ o.looksAt ops, e t = e' t) {c : Call} (hop : o.op = .call c) : evalArgs (rho C e) c.args.toList = evalArgs (rho C e') c.args.toList := by
 have h := rho_looks (C := C) henv
 rw [hop] at h
 simp only [Op.operands, Call.operands] at h
 exact evalArgs_congr (fun x hx => h x (by simp; right; simpa using hx))
/-- In a state that agrees on what is looked at, an operation does the same. -/
theorem One.move (h : One C Or Xo X ops i τ τ') (ho : ops[i]? = some o) (henv : ∀ t ∈ o.looksAt ops, σ.env t = τ.env t)
  (hloc : LocAt o.op.operands.toList (rho C τ.env) τ.loc σ.loc) (hh : σ.h = τ.h)
  (hk : ∀ d, o.dst = some d → isNew o = true → d ∉ X.A.heap → noKey d σ.env = σ.env ∧ noKey d τ.env = τ.env) :
  ∃ u, One C Or Xo X ops i σ ⟨mix o.dst σ.env τ'.env, updO σ.loc u, τ'.h⟩ ∧ τ'.loc = updO τ.loc u ∧ (∀ t, o.dst ≠ some t → τ'.env t = τ.env t) ∧
   (∀ key cs, u = some (key, cs) → (o.dst = some key ∧ isNew o = true) ∨ ∃ x ∈ o.op.operands.toList, ∃ off, rho C τ.env x = some (.lptr key off)) := by
 have noU : ∀ {Q : Nat → List AV → Prop}, ∀ key cs, (none : Option (Nat × List AV)) = some (key, cs) → Q key cs := fun key cs h => by cases h
 have hw := wanted_looks henv
 cases h with
 | off ho' hg hE =>
  rw [ho] at ho'; cases ho'
  obtain ⟨h1, h2⟩ := putD_move (e' := σ.env) hE
  exact ⟨none, by simpa only [updO, hh] using One.off (σ := σ) ho (by rw [hw]; exact hg) h1, rfl, h2, noU⟩
 | op ho' hg he ha =>
  rw [ho] at ho'; cases ho'
  have hl := opA_loc he
  obtain ⟨u, h1, h2, h3, h4⟩ := applyEff_move (σ := σ) hh (fun d cs hd hc => by subst hc; exact hk d hd hl.1 (hl.2 d hd)) ha
  refine ⟨u, .op ho (by rw [hw]; exact hg) ?_ h1, h2, h3, fun key cs hu => ?_⟩
  ·rw [← he, hh]
   exact (opA_congr (fun x hx => (rho_looks henv x hx).symm) hloc).symm
  ·rcases h4 key cs hu with ⟨h5, h6⟩ | h5
   ·subst h6; exact .inl ⟨h5, hl.1⟩
   ·subst h5
    obtain ⟨t, p, x, off, h6, h7⟩ := hl
    exact .inr ⟨p, by rw [h6]; simp [Op.operands], off, h7⟩
 | call ho' hg hcall hc ha =>
  rw [ho] at ho'; cases ho'
  obtain ⟨h1, h2, h3⟩ := putV_move ha
  exact ⟨none, by simpa only [updO] using One.call (σ := σ) ho (by rw [hw]; exact hg) (by rw [callOf_looks henv]; exact hcall) (by rw [hh]; exact hc) (h3 { σ with h := _ } rfl), h1, h2, noU⟩
 | ext ho' hg hcall hx ha =>
  rw [ho] at ho'; cases ho'
  obtain ⟨h1, h2, h3⟩ := putV_move ha
  exact ⟨none, by simpa only [updO] using One.ext (σ := σ) ho (by rw [hw]; exact hg) (by rw [callOf_looks henv]; exact hcall) hx (h3 σ hh), h1, h2, noU⟩
 | conv ho' hg hop hx hc ha =>
  rw [ho] at ho'; cases ho'
  obtain ⟨h1, h2, h3⟩ := putV_move ha
  have hx' := hx
  rw [← rho_looks henv _ (by rw [hop]; simp [Op.operands])] at hx'
  exact ⟨none, by simpa only [updO] using One.conv (σ := σ) ho (by rw [hw]; exact hg) hop hx' (by rw [hh]; exact hc) (h3 σ hh), h1, h2, noU⟩
 | str ho' hg hop hcal hx hs ha =>
  rw [ho] at ho'; cases ho'
  obtain ⟨h1, h2, h3⟩ := putV_move ha
  exact ⟨none, by simpa only [updO] using One.str (σ := σ) ho (by rw [hw]; exact hg) hop hcal (by rw [args_looks henv hop]; exact hx) (by rw [hh]; exact hs) (h3 { σ with h := _ } (by rw [hh])), h1, h2, noU⟩
 | yield ho' hg hcall hr hp h1 hr1 hs h2 hr2 ha =>
  rw [ho] at ho'; cases ho'
  obtain ⟨g1, g2, g3⟩ := putV_move ha
  exact ⟨none, by simpa only [updO] using One.yield (σ := σ) ho (by rw [hw]; exact hg) (by rw [callOf_looks henv]; exact hcall) (by rw [hh]; exact hr) hp (by rw [hh]; exact h1) hr1 hs h2 hr2 (g3 { σ with h := _ } rfl), g1, g2, noU⟩
/-- An operation that only hands back a value. -/
structure Rd (C : Ctx) (X : Fr) (ops : Array Oper) (o : Oper) (τ τ' : St) : Prop where
 loc : τ'.loc = τ.loc
 h : τ'.h = τ.h
 env : ∀ t, o.dst ≠ some t → τ'.env t = τ.env t
 val : (wantedA ops τ.env o = some false ∧ putD X.n τ.env o.dst (.tuple []) = some τ'.env) ∨
  (wantedA ops τ.env o = some true ∧ ∃ v, opA C X.A (rho C τ.env) τ.loc τ.h.get o = some (.val v) ∧ putD X.n τ.env o.dst v = some τ'.env)
theorem putV_noFrz {v : AV} (hf : ∀ d, dst = some d → d ∉ A.frz) : putV A n dst σ v = (putD n σ.env dst v).map fun e => { σ with env := e } := by
 unfold putV putD
 cases dst with
 | none => rfl
 | some d =>
  simp only [hf d rfl, if_false]
  split <;> rfl
theorem One.read (hr : Rd C X ops o τ τ') (ho : ops[i]? = some o) (henv : ∀ t ∈ o.looksAt ops, σ.env t = τ.env t) (hf : ∀ d, o.dst = some d → d ∉ X.A.frz)
  (hv : wantedA ops τ.env o = some true → opA C X.A (rho C τ.env) σ.loc σ.h.get o = opA C X.A (rho C τ.env) τ.loc τ.h.get o) :
  One C Or Xo X ops i σ ⟨mix o.dst σ.env τ'.env, σ.loc, σ.h⟩ := by
 have hw := wanted_looks henv
 rcases hr.val with ⟨hg, hE⟩ | ⟨hg, v, he, hE⟩
 ·obtain ⟨h1, h2⟩ := putD_move (e' := σ.env) hE
  exact One.off (σ := σ) ho (by rw [hw]; exact hg) h1
 ·obtain ⟨h1, h2⟩ := putD_move (e' := σ.env) hE
  refine .op ho (by rw [hw]; exact hg) (eff := .val v) ?_ ?_
  ·rw [opA_congr (rho_looks henv) (fun _ _ _ _ _ => rfl), hv hg, he]
  ·simp only [applyEff, putV_noFrz hf, h1, Option.map_some]
theorem One.alloc (h : One C Or Xo X ops i τ τ') (ho : ops[i]? = some o) {t : TypeId} (hop : o.op = .alloc t) {d : Nat} (hd : o.dst = some d) (hl : d ∉ X.A.heap)
  (henv : ∀ t ∈ o.looksAt ops, σ.env t = τ.env t) (hk : noKey d σ.env = σ.env ∧ noKey d τ.env = τ.env) :
  ∃ u, One C Or Xo X ops i σ ⟨mix o.dst σ.env τ'.env, updO σ.loc u, σ.h⟩ ∧ τ'.loc = updO τ.loc u ∧ τ'.h = τ.h ∧ (∀ t, o.dst ≠ some t → τ'.env t = τ.env t) ∧
   (∀ key cs, u = some (key, cs) → key = d) := by
 have noU : ∀ {Q : Nat → List AV → Prop}, ∀ key cs, (none : Option (Nat × List AV)) = some (key, cs) → Q key cs := fun key cs h => by cases h
 have hw := wanted_looks henv
 cases h with
 | off ho' hg hE =>
  rw [ho] at ho'; cases ho'
  obtain ⟨h1, h2⟩ := putD_move (e' := σ.env) hE
  exact ⟨none, by simpa only [updO] using One.off (σ := σ) ho (by rw [hw]; exact hg) h1, rfl, rfl, h2, noU⟩
 | op ho' hg he ha =>
  rw [ho] at ho'; cases ho'
  have he0 := he
  unfold opA at he
  simp only [hop, hd] at he
  split at he
  ·rename_i d' z hd' hz
   cases hd'
   rw [if_neg hl] at he
   simp only [Option.some.injEq] at he; subst he
   simp only [applyEff, hd] at ha
   split at ha
   ·rename_i hdn
    simp only [Option.some.injEq] at ha; subst ha
    refine ⟨some (d, z), .op ho (by rw [hw]; exact hg) (eff := .newL z) ?_ ?_, rfl, rfl, fun t ht => ?_, fun key cs h => by simp at h; exact h.1.symm⟩
    ·unfold opA; simp only [hop, hd, hz, if_neg hl]
    ·simp only [applyEff, hd, hdn, if_true, hk.1, mix_upd, updO]
    ·simp only [upd, hk.2]; rw [if_neg (fun h => ht (by rw [hd, h]))]
   ·cases ha
  ·cases he
 | call ho' hg hcall hc ha =>
  rw [ho] at ho'; cases ho'
  unfold callOf at hcall; rw [hop] at hcall; cases hcall
 | ext ho' hg hcall hx ha =>
  rw [ho] at ho'; cases ho'
  unfold callOf at hcall; rw [hop] at hcall; cases hcall
 | conv ho' hg hop' hx hc ha => rw [ho] at ho'; cases ho'; rw [hop] at hop'; cases hop'
 | str ho' hg hop' hcal hx hs ha => rw [ho] at ho'; cases ho'; rw [hop] at hop'; cases hop'
 | yield ho' hg hcall hr hp h1 hr1 hs h2 hr2 ha =>
  rw [ho] at ho'; cases ho'
  unfold callOf at hcall; rw [hop] at hcall; cases hcall
end
end Go.Dv
/- A region whose order is drawn: every order leads where one told order does. -/
namespace Go.Dv
structure Drawn (C : Ctx) (Or : FuncId → List AV → Hp → AV → Hp → Prop) (Xo : FuncId → List AV → AV → Prop) (X : Fr) (ops : Array Oper)
  (ord : List Nat) (wr : Nat → Bool) (nA : Nat) (clo : Nat → Nat → Bool) (τ : Nat → St) : Prop where
 nodup : ord.Nodup
 all : ∀ j, j < ops.size → j ∈ ord
 lt : ∀ j ∈ ord, j < ops.size
 nA_le : nA ≤ ord.length
 edge : ∀ (j : Nat) o e, ops[j]? = some o → e ∈ o.after → Region.binds .any e = true → e.on < j
 clo_edge : ∀ (j : Nat) o i, ops[j]? = some o → clo j i = true → ∃ e ∈ o.after, Region.binds .any e = true ∧ (i = e.on ∨ clo e.on i = true)
 topo : ∀ (p q i j : Nat), ord[p]? = some i → ord[q]? = some j → clo j i = true → p < q
 dst : ∀ (i j : Nat) oi oj d, ops[i]? = some oi → ops[j]? = some oj → oi.dst = some d → oj.dst = some d → i = j
 looks : ∀ (j : Nat) o t (i : Nat) oi, ops[j]? = some o → t ∈ o.looksAt ops → ops[i]? = some oi → oi.dst = some t → clo j i = true ∨ clo i j = true ∨ i = j
 wrt : ∀ (p q i j : Nat), ord[p]? = some i → ord[q]? = some j → p < q → wr i = true → wr j = true → clo j i = true
 al : ∀ (p i : Nat), ord[p]? = some i → p < nA → wr i = false ∧ ∃ o t d, ops[i]? = some o ∧ o.op = .alloc t ∧ o.dst = some d ∧ d ∉ X.A.heap
 frz : ∀ (p i : Nat) o d, ord[p]? = some i → nA ≤ p → wr i = false → ops[i]? = some o → o.dst = some d → d ∉ X.A.frz
 step : ∀ (p j : Nat), ord[p]? = some j → One C Or Xo X ops j (τ p) (τ (p + 1))
 rd : ∀ (p j : Nat) o, ord[p]? = some j → nA ≤ p → wr j = false → ops[j]? = some o → Rd C X ops o (τ p) (τ (p + 1))
 new1 : ∀ (p j : Nat) o d, ord[p]? = some j → ops[j]? = some o → isNew o = true → o.dst = some d → d ∉ X.A.heap → noKey d (τ p).env = (τ p).env ∧
  (∀ t off, (τ 0).env t ≠ some (.lptr d off)) ∧ (∀ (i : Nat) oi t off, ops[i]? = some oi → oi.dst = some t → (τ ord.length).env t = some (.lptr d off) → i = j ∨ clo i j = true)
 key2 : ∀ (p q i j : Nat) o oi key x off, ord[q]? = some j → ops[j]? = some o → x ∈ o.op.operands.toList → rho C (τ q).env x = some (.lptr key off) → ord[p]? = some i → p < nA →
  ops[i]? = some oi → oi.dst = some key → clo j i = true
 al5 : ∀ (q j : Nat) o d p, ord[q]? = some j → q < nA → ops[j]? = some o → o.dst = some d → nA ≤ p → p ≤ ord.length →
  (∀ (q' i : Nat), ord[q']? = some i → wr i = true → q' < p → clo i j = false) → (τ p).loc d = (τ (q + 1)).loc d
 fl : ∀ (q j : Nat) o p, ord[q]? = some j → nA ≤ q → wr j = false → ops[j]? = some o → wantedA ops (τ q).env o = some true → nA ≤ p → p ≤ ord.length →
  (∀ (q' i : Nat), ord[q']? = some i → wr i = true → clo j i = true → q' < p) → (∀ (q' i : Nat), ord[q']? = some i → wr i = true → q' < p → clo i j = false) →
  opA C X.A (rho C (τ q).env) (τ p).loc (τ p).h.get o = opA C X.A (rho C (τ q).env) (τ q).loc (τ q).h.get o
theorem noKey_self {d : Nat} {e : Env} (h : ∀ t off, e t ≠ some (.lptr d off)) : noKey d e = e := by
 funext t
 unfold noKey
 cases he : e t with
 | none => rfl
 | some v =>
  cases v <;> simp only
  rename_i k off
  by_cases hk : k = d
  ·subst hk; exact absurd he (h t off)
  ·rw [if_neg hk]
section
variable {C : Ctx} {Or : FuncId → List AV → Hp → AV → Hp → Prop} {Xo : FuncId → List AV → AV → Prop} {X : Fr} {ops : Array Oper}
 {ord : List Nat} {wr : Nat → Bool} {nA : Nat} {clo : Nat → Nat → Bool} {τ : Nat → St}
namespace Drawn
theorem at_lt {ord : List Nat} {p i : Nat} (h : ord[p]? = some i) : p < ord.length := (List.getElem?_eq_some_iff.1 h).1
theorem pos_inj (D : Drawn C Or Xo X ops ord wr nA clo τ) {p q i : Nat} (hp : ord[p]? = some i) (hq : ord[q]? = some i) : p = q := by
 have h1 := (List.getElem?_eq_some_iff.1 hp)
 have h2 := (List.getElem?_eq_some_iff.1 hq)
 obtain ⟨h1, e1⟩ := h1
 obtain ⟨h2, e2⟩ := h2
 exact (List.getElem_inj D.nodup).1 (e1.trans e2.symm)
theorem pos_of (D : Drawn C Or Xo X ops ord wr nA clo τ) {j : Nat} (h : j < ops.size) : ∃ p : Nat, ord[p]? = some j := by
 obtain ⟨p, hp, e⟩ := List.getElem_of_mem (D.all j h)
 exact ⟨p, by rw [List.getElem?_eq_getElem hp, e]⟩
theorem op_of (D : Drawn C Or Xo X ops ord wr nA clo τ) {p j : Nat} (h : ord[p]? = some j) : ∃ o, ops[j]? = some o := by
 have := D.lt j (List.mem_of_getElem? h)
 exact ⟨ops[j], by simp [this]⟩
/-- A step leaves every other slot alone. -/
theorem step_env (D : Drawn C Or Xo X ops ord wr nA clo τ) {p j : Nat} {o : Oper} (h : ord[p]? = some j) (ho : ops[j]? = some o) {t : Nat} (ht : o.dst ≠ some t) :
  (τ (p + 1)).env t = (τ p).env t := by
 obtain ⟨u, _, _, h3, _⟩ := One.move (σ := τ p) (D.step p j h) ho (fun _ _ => rfl) (fun _ _ _ _ _ => rfl) rfl (fun d hd hn hh => ⟨(D.new1 p j o d h ho hn hd hh).1, (D.new1 p j o d h ho hn hd hh).1⟩)
 exact h3 t ht
/-- A slot that nobody writes between two places. -/
theorem env_between (D : Drawn C Or Xo X ops ord wr nA clo τ) {t : Nat} : ∀ (k p : Nat), p + k ≤ ord.length →
  (∀ (q j : Nat) o, p ≤ q → q < p + k → ord[q]? = some j → ops[j]? = some o → o.dst ≠ some t) → (τ (p + k)).env t = (τ p).env t
 | 0, _, _, _ => rfl
 | k + 1, p, hk, h => by
  have hq : p + k < ord.length := by omega
  have hj : ord[p + k]? = some ord[p + k] := List.getElem?_eq_getElem hq
  obtain ⟨o, ho⟩ := D.op_of hj
  rw [show p + (k + 1) = (p + k) + 1 by omega, D.step_env hj ho (h _ _ _ (by omega) (by omega) hj ho)]
  exact D.env_between k p (by omega) fun q j o h1 h2 => h q j o h1 (by omega)
theorem env_last (D : Drawn C Or Xo X ops ord wr nA clo τ) {t p i : Nat} {oi : Oper} (hi : ord[p]? = some i) (ho : ops[i]? = some oi) (hd : oi.dst = some t) {q : Nat} (h1 : p < q) (h2 : q ≤ ord.length) :
  (τ q).env t = (τ ord.length).env t := by
 have key : ∀ r, p < r → r ≤ ord.length → (τ r).env t = (τ (p + 1)).env t := by
  intro r hr1 hr2
  obtain ⟨k, rfl⟩ : ∃ k, r = (p + 1) + k := ⟨r - (p + 1), by omega⟩
  refine D.env_between k (p + 1) hr2 fun q' j o h3 h4 hj hoj hdj => ?_
  have : i = j := D.dst i j oi o t ho hoj hd hdj
  subst this
  have := D.pos_inj hi hj
  omega
 rw [key q h1 h2, key ord.length (by have := at_lt hi; omega) (Nat.le_refl _)]
theorem env_never (D : Drawn C Or Xo X ops ord wr nA clo τ) {t : Nat} (hn : ∀ (j : Nat) o, ops[j]? = some o → o.dst ≠ some t) {q : Nat} (hq : q ≤ ord.length) : (τ q).env t = (τ 0).env t := by
 have := D.env_between (t := t) q 0 (by omega) fun q' j o _ _ hj ho => hn j o ho
 rwa [Nat.zero_add] at this
/-- Memory is the same at two places between which nobody writes. -/
theorem mem_between (D : Drawn C Or Xo X ops ord wr nA clo τ) : ∀ (k p : Nat), nA ≤ p → p + k ≤ ord.length →
  (∀ (q j : Nat), p ≤ q → q < p + k → ord[q]? = some j → wr j = false) → (τ (p + k)).loc = (τ p).loc ∧ (τ (p + k)).h = (τ p).h
 | 0, _, _, _, _ => ⟨rfl, rfl⟩
 | k + 1, p, hp, hk, h => by
  have hq : p + k < ord.length := by omega
  have hj : ord[p + k]? = some ord[p + k] := List.getElem?_eq_getElem hq
  obtain ⟨o, ho⟩ := D.op_of hj
  have hr := D.rd (p + k) _ o hj (by omega) (h _ _ (by omega) (by omega) hj) ho
  have ih := D.mem_between k p hp (by omega) fun q j h1 h2 => h q j h1 (by omega)
  rw [show p + (k + 1) = (p + k) + 1 by omega]
  exact ⟨hr.loc.trans ih.1, hr.h.trans ih.2⟩
theorem mem_same (D : Drawn C Or Xo X ops ord wr nA clo τ) {p q : Nat} (hp : nA ≤ p) (hpq : p ≤ q) (hq : q ≤ ord.length) (h : ∀ (r j : Nat), p ≤ r → r < q → ord[r]? = some j → wr j = false) :
  (τ q).loc = (τ p).loc ∧ (τ q).h = (τ p).h := by
 obtain ⟨k, rfl⟩ : ∃ k, q = p + k := ⟨q - p, by omega⟩
 exact D.mem_between k p hp hq h
/-- The allocations at the front. -/
theorem al_step (D : Drawn C Or Xo X ops ord wr nA clo τ) {p j : Nat} {o : Oper} {d : Nat} (h : ord[p]? = some j) (hp : p < nA) (ho : ops[j]? = some o) (hd : o.dst = some d) :
  (τ (p + 1)).h = (τ p).h ∧ ∀ k, k ≠ d → (τ (p + 1)).loc k = (τ p).loc k := by
 obtain ⟨_, o', t, d', ho', hop, hd', hl⟩ := D.al p j h hp
 rw [ho] at ho'; cases ho'
 rw [hd] at hd'; cases hd'
 have hn : isNew o = true := by simp [isNew, hop]
 have hk := (D.new1 p j o d h ho hn hd hl).1
 obtain ⟨u, _, h2, h3, _, h5⟩ := One.alloc (σ := τ p) (D.step p j h) ho hop hd hl (fun _ _ => rfl) ⟨hk, hk⟩
 refine ⟨h3, fun k hk => ?_⟩
 rw [h2]
 cases u with
 | none => rfl
 | some x =>
  obtain ⟨key, cs⟩ := x
  have := h5 key cs rfl
  subst this
  simp [updO, upd, hk]
theorem al_front (D : Drawn C Or Xo X ops ord wr nA clo τ) : ∀ p, p ≤ nA → (τ p).h = (τ 0).h ∧ ∀ k, (∀ (q j : Nat) o, q < p → ord[q]? = some j → ops[j]? = some o → o.dst ≠ some k) → (τ p).loc k = (τ 0).loc k
 | 0, _ => ⟨rfl, fun _ _ => rfl⟩
 | p + 1, hp => by
  have ih := D.al_front p (by omega)
  have hq : p < ord.length := by have := D.nA_le; omega
  have hj : ord[p]? = some ord[p] := List.getElem?_eq_getElem hq
  obtain ⟨_, o, t, d, ho, hop, hd, _⟩ := D.al p _ hj (by omega)
  obtain ⟨h1, h2⟩ := D.al_step hj (by omega) ho hd
  refine ⟨h1.trans ih.1, fun k hk => ?_⟩
  rw [h2 k (fun h => hk p _ o (by omega) hj ho (by rw [hd, h]))]
  exact ih.2 k fun q j o h3 => hk q j o (by omega)
def Cl (ops : Array Oper) (S : Nat → Prop) : Prop := ∀ (j : Nat) o e, S j → ops[j]? = some o → e ∈ o.after → Region.binds .any e = true → S e.on
theorem clo_mem (D : Drawn C Or Xo X ops ord wr nA clo τ) {S : Nat → Prop} (hS : Cl ops S) : ∀ (n j : Nat), j < n → ∀ o i, ops[j]? = some o → (∀ e ∈ o.after, Region.binds .any e = true → S e.on) → clo j i = true → S i
 | 0, _, h, _, _, _, _, _ => absurd h (Nat.not_lt_zero _)
 | n + 1, j, hj, o, i, ho, he, hc => by
  obtain ⟨e, hm, hb, h1⟩ := D.clo_edge j o i ho hc
  have hs := he e hm hb
  rcases h1 with rfl | h1
  ·exact hs
  ·have hlt := D.edge j o e ho hm hb
   have hsz : j < ops.size := (Array.getElem?_eq_some_iff.1 ho).1
   have ho' : ops[e.on]? = some ops[e.on] := by simp [show e.on < ops.size by omega]
   exact D.clo_mem hS n e.on (by omega) _ i ho' (fun e' h2 h3 => hS e.on _ e' hs ho' h2 h3) h1
/-- What stands when the operations of S are done. -/
structure Inv (C : Ctx) (X : Fr) (ops : Array Oper) (ord : List Nat) (wr : Nat → Bool) (nA : Nat) (τ : Nat → St) (S : Nat → Prop) (σ : St) : Prop where
 cl : Cl ops S
 mem : ∃ p, nA ≤ p ∧ p ≤ ord.length ∧ (∀ (q i : Nat), ord[q]? = some i → wr i = true → (S i ↔ q < p)) ∧ σ.h = (τ p).h ∧
  ∀ k, ((∃ (q j : Nat) (o : Oper), q < nA ∧ ord[q]? = some j ∧ ops[j]? = some o ∧ o.dst = some k ∧ ¬ S j) → σ.loc k = (τ 0).loc k) ∧
   ((∀ (q j : Nat) (o : Oper), q < nA → ord[q]? = some j → ops[j]? = some o → o.dst = some k → S j) → σ.loc k = (τ p).loc k)
 e1 : ∀ t (j : Nat) o, S j → ops[j]? = some o → o.dst = some t → σ.env t = (τ ord.length).env t
 e2 : ∀ t, (∀ (j : Nat) o, S j → ops[j]? = some o → o.dst ≠ some t) → σ.env t = (τ 0).env t
theorem inv_start (D : Drawn C Or Xo X ops ord wr nA clo τ) : Inv C X ops ord wr nA τ (fun _ => False) (τ 0) := by
 refine ⟨fun _ _ _ h => h.elim, ⟨nA, Nat.le_refl _, D.nA_le, fun q i hq hw => ⟨False.elim, fun h => ?_⟩, (D.al_front nA (Nat.le_refl _)).1.symm, fun k => ⟨fun _ => rfl, fun h => ?_⟩⟩, fun _ _ _ h => h.elim, fun _ _ => rfl⟩
 ·have := (D.al q i hq h).1
  rw [this] at hw; cases hw
 ·exact ((D.al_front nA (Nat.le_refl _)).2 k fun q j o h1 h2 h3 h4 => h q j o h1 h2 h3 h4).symm
theorem inv_end (D : Drawn C Or Xo X ops ord wr nA clo τ) {S : Nat → Prop} {σ : St} (hI : Inv C X ops ord wr nA τ S σ) (hall : ∀ j, j < ops.size → S j) : σ = τ ord.length := by
 obtain ⟨p, h1, h2, h3, h4, h5⟩ := hI.mem
 have hm := D.mem_same h1 h2 (Nat.le_refl _) fun r j hr1 hr2 hj => by
  cases hw : wr j with
  | false => rfl
  | true =>
   have := (h3 r j hj hw).1 (hall j (D.lt j (List.mem_of_getElem? hj)))
   omega
 have he : σ.env = (τ ord.length).env := by
  funext t
  by_cases ht : ∃ (j : Nat) (o : Oper), ops[j]? = some o ∧ o.dst = some t
  ·obtain ⟨j, o, ho, hd⟩ := ht
   exact hI.e1 t j o (hall j (Array.getElem?_eq_some_iff.1 ho).1) ho hd
  ·have hn : ∀ (j : Nat) o, ops[j]? = some o → o.dst ≠ some t := fun j o ho hd => ht ⟨j, o, ho, hd⟩
   rw [hI.e2 t fun j o _ => hn j o, D.env_never hn (Nat.le_refl _)]
 have hl : σ.loc = (τ ord.length).loc := by
  funext k
  rw [hm.1]
  exact (h5 k).2 fun q j o _ hj ho _ => hall j (Array.getElem?_eq_some_iff.1 ho).1
 have hh : σ.h = (τ ord.length).h := by rw [hm.2, h4]
 cases σ
 simp only at he hl hh
 subst he; subst hl; subst hh
 rfl
/-- Slots that are looked at hold what they held in the told order. -/
theorem inv_looks (D : Drawn C Or Xo X ops ord wr nA clo τ) {S : Nat → Prop} {σ : St} (hI : Inv C X ops ord wr nA τ S σ) {q j : Nat} {o : Oper} (hq : ord[q]? = some j) (ho : ops[j]? = some o) (hj : ¬ S j)
  (he : ∀ e ∈ o.after, Region.binds .any e = true → S e.on) : ∀ t ∈ o.looksAt ops, σ.env t = (τ q).env t := by
 intro t ht
 by_cases hd : ∃ (i : Nat) (oi : Oper), ops[i]? = some oi ∧ oi.dst = some t
 ·obtain ⟨i, oi, hoi, hdi⟩ := hd
  obtain ⟨p, hp⟩ := D.pos_of (Array.getElem?_eq_some_iff.1 hoi).1
  have later : ¬ S i → q ≤ p → σ.env t = (τ q).env t := fun hs hqp => by
   rw [hI.e2 t fun i' oi' h1 h2 h3 => hs ((D.dst i' i oi' oi t h2 hoi h3 hdi) ▸ h1)]
   have := D.env_between (t := t) q 0 (by have := at_lt hq; omega) fun r i' oi' _ h1 h2 h3 h4 => by
    have := D.dst i' i oi' oi t h3 hoi h4 hdi
    subst this
    have := D.pos_inj h2 hp
    omega
   rw [Nat.zero_add] at this
   exact this.symm
  rcases D.looks j o t i oi ho ht hoi hdi with hc | hc | rfl
  case inr.inl =>
   have hlt := D.topo q p j i hq hp hc
   exact later (fun hs => hj (D.clo_mem hI.cl _ i (Nat.lt_succ_self i) oi j hoi (fun e a b => hI.cl i oi e hs hoi a b) hc)) (by omega)
  case inr.inr => exact later hj (by have := D.pos_inj hp hq; omega)
  have hs := D.clo_mem hI.cl _ j (Nat.lt_succ_self j) o i ho he hc
  have hlt := D.topo p q i j hp hq hc
  rw [hI.e1 t i oi hs hoi hdi, D.env_last hp hoi hdi hlt (Nat.le_of_lt (at_lt hq))]
 ·have hn : ∀ (i : Nat) oi, ops[i]? = some oi → oi.dst ≠ some t := fun i oi h1 h2 => hd ⟨i, oi, h1, h2⟩
  rw [hI.e2 t fun i oi _ => hn i oi, D.env_never hn (Nat.le_of_lt (at_lt hq))]
theorem inv_noKey (D : Drawn C Or Xo X ops ord wr nA clo τ) {S : Nat → Prop} {σ : St} (hI : Inv C X ops ord wr nA τ S σ) {q j : Nat} {o : Oper} {d : Nat} (hq : ord[q]? = some j) (ho : ops[j]? = some o)
  (hj : ¬ S j) (hn : isNew o = true) (hd : o.dst = some d) (hh : d ∉ X.A.heap) : noKey d σ.env = σ.env := by
 obtain ⟨_, h0, hN⟩ := D.new1 q j o d hq ho hn hd hh
 refine noKey_self fun t off ht => ?_
 by_cases hx : ∃ (i : Nat) (oi : Oper), S i ∧ ops[i]? = some oi ∧ oi.dst = some t
 ·obtain ⟨i, oi, hs, hoi, hdi⟩ := hx
  rw [hI.e1 t i oi hs hoi hdi] at ht
  rcases hN i oi t off hoi hdi ht with rfl | hc
  ·exact hj hs
  ·exact hj (D.clo_mem hI.cl _ i (Nat.lt_succ_self i) oi j hoi (fun e h1 h2 => hI.cl i oi e hs hoi h1 h2) hc)
 ·rw [hI.e2 t fun i oi h1 h2 h3 => hx ⟨i, oi, h1, h2, h3⟩] at ht
  exact h0 t off ht
def add (S : Nat → Prop) (j : Nat) : Nat → Prop := fun i => S i ∨ i = j
theorem cl_add {S : Nat → Prop} {j : Nat} {o : Oper} (hS : Cl ops S) (ho : ops[j]? = some o) (he : ∀ e ∈ o.after, Region.binds .any e = true → S e.on) : Cl ops (add S j) := by
 intro i oi e hi hoi h1 h2
 rcases hi with hi | rfl
 ·exact .inl (hS i oi e hi hoi h1 h2)
 ·rw [ho] at hoi; cases hoi
  exact .inl (he e h1 h2)
theorem inv_env (D : Drawn C Or Xo X ops ord wr nA clo τ) {S : Nat → Prop} {σ : St} (hI : Inv C X ops ord wr nA τ S σ) {q j : Nat} {o : Oper} (hq : ord[q]? = some j) (ho : ops[j]? = some o) (hj : ¬ S j) :
  (∀ t (i : Nat) oi, add S j i → ops[i]? = some oi → oi.dst = some t → mix o.dst σ.env (τ (q + 1)).env t = (τ ord.length).env t) ∧
  (∀ t, (∀ (i : Nat) oi, add S j i → ops[i]? = some oi → oi.dst ≠ some t) → mix o.dst σ.env (τ (q + 1)).env t = (τ 0).env t) := by
 refine ⟨fun t i oi hi hoi hdi => ?_, fun t ht => ?_⟩
 ·rcases hi with hi | rfl
  ·have hne : o.dst ≠ some t := fun hd => by
    have := D.dst i j oi o t hoi ho hdi hd
    subst this; exact hj hi
   simp only [mix, if_neg hne]
   exact hI.e1 t i oi hi hoi hdi
  ·rw [ho] at hoi; cases hoi
   simp only [mix, hdi, if_true]
   exact D.env_last hq ho hdi (Nat.lt_succ_self q) (at_lt hq)
 ·simp only [mix, if_neg (ht j o (.inr rfl) ho)]
  exact hI.e2 t fun i oi hi => ht i oi (.inl hi)
/-- What a pointer to a local variable leads to. -/
theorem inv_loc (D : Drawn C Or Xo X ops ord wr nA clo τ) {S : Nat → Prop} {σ : St} (hI : Inv C X ops ord wr nA τ S σ) {q j p : Nat} {o : Oper} (hq : ord[q]? = some j) (ho : ops[j]? = some o)
  (he : ∀ e ∈ o.after, Region.binds .any e = true → S e.on)
  (hp : ∀ k, (∀ (q j : Nat) (o : Oper), q < nA → ord[q]? = some j → ops[j]? = some o → o.dst = some k → S j) → σ.loc k = (τ p).loc k)
  {x : Operand} (hx : x ∈ o.op.operands.toList) {key off : Nat} (hv : rho C (τ q).env x = some (.lptr key off)) : σ.loc key = (τ p).loc key ∧
   (∀ (r i : Nat) (oi : Oper), r < nA → ord[r]? = some i → ops[i]? = some oi → oi.dst = some key → S i) := by
 have : ∀ (r i : Nat) (oi : Oper), r < nA → ord[r]? = some i → ops[i]? = some oi → oi.dst = some key → S i := fun r i oi h1 h2 h3 h4 =>
  D.clo_mem hI.cl _ j (Nat.lt_succ_self j) o i ho he (D.key2 r q i j o oi key x off hq ho hx hv h2 h1 h3 h4)
 exact ⟨hp key this, this⟩
theorem inv_step (D : Drawn C Or Xo X ops ord wr nA clo τ) {S : Nat → Prop} {σ : St} (hI : Inv C X ops ord wr nA τ S σ) {j : Nat} {o : Oper} (ho : ops[j]? = some o)
  (hj : ¬ S j) (he : ∀ e ∈ o.after, Region.binds .any e = true → S e.on) : ∃ σ', One C Or Xo X ops j σ σ' ∧ Inv C X ops ord wr nA τ (add S j) σ' := by
 obtain ⟨q, hq⟩ := D.pos_of (Array.getElem?_eq_some_iff.1 ho).1
 have hcl := cl_add hI.cl ho he
 obtain ⟨e1, e2⟩ := D.inv_env hI hq ho hj
 have hlook := D.inv_looks hI hq ho hj he
 obtain ⟨p, hp1, hp2, hp3, hp4, hp5⟩ := hI.mem
 by_cases hA : q < nA
 ·skip
  obtain ⟨hwj, o', t, d, ho', hop, hd, hl⟩ := D.al q j hq hA
  rw [ho] at ho'; cases ho'
  have hn : isNew o = true := by simp [isNew, hop]
  obtain ⟨u, h1, h2, h3, h4, h5⟩ := One.alloc (σ := σ) (D.step q j hq) ho hop hd hl hlook ⟨D.inv_noKey hI hq ho hj hn hd hl, (D.new1 q j o d hq ho hn hd hl).1⟩
  refine ⟨_, h1, hcl, ⟨p, hp1, hp2, fun r i hr hw => ?_, hp4, fun k => ?_⟩, e1, e2⟩
  ·rw [← hp3 r i hr hw]
   refine ⟨fun h => h.resolve_right ?_, .inl⟩
   rintro rfl
   rw [hwj] at hw; cases hw
  ·have hother : ∀ k, k ≠ d → updO σ.loc u k = σ.loc k := fun k hk => by
    cases u with
    | none => rfl
    | some x =>
     obtain ⟨key, cs⟩ := x
     have := h5 key cs rfl
     subst this
     simp [updO, upd, hk]
   refine ⟨fun ⟨r, i, oi, hr, hri, hoi, hdi, hni⟩ => ?_, fun hall => ?_⟩
   ·have hkd : k ≠ d := by
     rintro rfl
     have := D.dst i j oi o k hoi ho hdi hd
     subst this
     exact hni (.inr rfl)
    simp only
    rw [hother k hkd]
    exact (hp5 k).1 ⟨r, i, oi, hr, hri, hoi, hdi, fun h => hni (.inl h)⟩
   ·by_cases hkd : k = d
    ·subst hkd
     have h6 := D.al5 q j o k p hq hA ho hd hp1 hp2 (fun r i hr hw hlt => by
      cases hc : clo i j with
      | false => rfl
      | true =>
       have hs := (hp3 r i hr hw).2 hlt
       obtain ⟨oi, hoi⟩ := D.op_of hr
       exact absurd (D.clo_mem hI.cl _ i (Nat.lt_succ_self i) oi j hoi (fun e a b => hI.cl i oi e hs hoi a b) hc) hj)
     simp only
     rw [h6, h2]
     cases u with
     | none =>
      simp only [updO]
      rw [(hp5 k).1 ⟨q, j, o, hA, hq, ho, hd, hj⟩]
      exact ((D.al_front q (by omega)).2 k fun r i oi h7 h8 h9 h10 => by
       have := D.dst i j oi o k h9 ho h10 hd
       subst this
       have := D.pos_inj h8 hq
       omega).symm
     | some x =>
      obtain ⟨key, cs⟩ := x
      have := h5 key cs rfl
      subst this
      simp [updO, upd]
    ·simp only
     rw [hother k hkd]
     refine (hp5 k).2 fun r i oi h7 h8 h9 h10 => (hall r i oi h7 h8 h9 h10).resolve_right ?_
     rintro rfl
     rw [ho] at h9; cases h9
     rw [hd] at h10; cases h10
     exact hkd rfl
 ·have hA : nA ≤ q := by omega
  cases hw : wr j with
  | true =>
   have hpq : p ≤ q := by
    rcases Nat.lt_or_ge q p with h | h
    ·exact absurd ((hp3 q j hq hw).2 h) hj
    ·exact h
   have hm := D.mem_same hp1 hpq (Nat.le_of_lt (at_lt hq)) fun r i hr1 hr2 hri => by
    cases hwi : wr i with
    | false => rfl
    | true =>
     have hc := D.wrt r q i j hri hq hr2 hwi hw
     have hs := D.clo_mem hI.cl _ j (Nat.lt_succ_self j) o i ho he hc
     have := (hp3 r i hri hwi).1 hs
     omega
   have hloc : ∀ x ∈ o.op.operands.toList, ∀ key off, rho C (τ q).env x = some (.lptr key off) → σ.loc key = (τ q).loc key ∧
     (∀ (r i : Nat) (oi : Oper), r < nA → ord[r]? = some i → ops[i]? = some oi → oi.dst = some key → S i) := fun x hx key off hv => by
    have := D.inv_loc hI hq ho he (fun k => (hp5 k).2) hx hv
    rw [hm.1]; exact this
   obtain ⟨u, h1, h2, h3, h4⟩ := One.move (σ := σ) (D.step q j hq) ho hlook (fun x hx key off hv => ((hloc x hx key off hv).1).symm) (by rw [hp4, hm.2])
    (fun d hd hn hh => ⟨D.inv_noKey hI hq ho hj hn hd hh, (D.new1 q j o d hq ho hn hd hh).1⟩)
   have hnp : ∀ k cs, u = some (k, cs) → ∀ (r i : Nat) (oi : Oper), r < nA → ord[r]? = some i → ops[i]? = some oi → oi.dst = some k → S i := fun k cs hu r i oi h7 h8 h9 h10 => by
    rcases h4 k cs hu with ⟨hd, _⟩ | ⟨x, hx, off, hv⟩
    ·have := D.dst i j oi o k h9 ho h10 hd
     subst this
     have := D.pos_inj h8 hq
     omega
    ·exact (hloc x hx k off hv).2 r i oi h7 h8 h9 h10
   refine ⟨_, h1, hcl, ⟨q + 1, by omega, at_lt hq, fun r i hri hwi => ?_, rfl, fun k => ⟨fun ⟨r, i, oi, hr, hri, hoi, hdi, hni⟩ => ?_, fun hall => ?_⟩⟩, e1, e2⟩
   ·constructor
    ·rintro (hs | rfl)
     ·have := (hp3 r i hri hwi).1 hs; omega
     ·have := D.pos_inj hri hq; omega
    ·intro hlt
     rcases Nat.lt_or_ge r q with h | h
     ·exact .inl (D.clo_mem hI.cl _ j (Nat.lt_succ_self j) o i ho he (D.wrt r q i j hri hq h hwi hw))
     ·have : r = q := by omega
      subst this
      rw [hq] at hri; cases hri
      exact .inr rfl
   ·have hs : ¬ S i := fun h => hni (.inl h)
    have : updO σ.loc u k = σ.loc k := by
     cases u with
     | none => rfl
     | some x =>
      obtain ⟨key, cs⟩ := x
      have hne : k ≠ key := by
       rintro rfl
       exact hs (hnp k cs rfl r i oi hr hri hoi hdi)
      simp [updO, upd, hne]
    simp only
    rw [this]
    exact (hp5 k).1 ⟨r, i, oi, hr, hri, hoi, hdi, hs⟩
   ·have hall' : ∀ (r i : Nat) (oi : Oper), r < nA → ord[r]? = some i → ops[i]? = some oi → oi.dst = some k → S i := fun r i oi h7 h8 h9 h10 => (hall r i oi h7 h8 h9 h10).resolve_right (by
     rintro rfl
     have := D.pos_inj h8 hq
     omega)
    have h8 := (hp5 k).2 hall'
    simp only
    rw [h2]
    cases u with
    | none => simp only [updO]; rw [h8, hm.1]
    | some x =>
     obtain ⟨key, cs⟩ := x
     simp only [updO, upd]
     split
     ·rfl
     ·rw [h8, hm.1]
  | false =>
   have hr := D.rd q j o hq hA hw ho
   have hone := One.read (C := C) (Or := Or) (Xo := Xo) (i := j) (σ := σ) hr ho hlook (fun d hd => D.frz q j o d hq hA hw ho hd) (fun hg => by
    have hfl := D.fl q j o p hq hA hw ho hg hp1 hp2 (fun r i hri hwi hc => (hp3 r i hri hwi).1 (D.clo_mem hI.cl _ j (Nat.lt_succ_self j) o i ho he hc)) (fun r i hri hwi hlt => by
     cases hc : clo i j with
     | false => rfl
     | true =>
      have hs := (hp3 r i hri hwi).2 hlt
      obtain ⟨oi, hoi⟩ := D.op_of hri
      exact absurd (D.clo_mem hI.cl _ i (Nat.lt_succ_self i) oi j hoi (fun e a b => hI.cl i oi e hs hoi a b) hc) hj)
    rw [← hfl, hp4]
    exact opA_congr (fun _ _ => rfl) (fun x hx key off hv => (D.inv_loc hI hq ho he (fun k => (hp5 k).2) hx hv).1))
   refine ⟨_, hone, hcl, ⟨p, hp1, hp2, fun r i hri hwi => ?_, hp4, fun k => ⟨fun ⟨r, i, oi, h7, h8, h9, h10, h11⟩ => ?_, fun hall => ?_⟩⟩, e1, e2⟩
   ·rw [← hp3 r i hri hwi]
    refine ⟨fun h => h.resolve_right ?_, .inl⟩
    rintro rfl
    rw [hw] at hwi; cases hwi
   ·exact (hp5 k).1 ⟨r, i, oi, h7, h8, h9, h10, fun h => h11 (.inl h)⟩
   ·refine (hp5 k).2 fun r i oi h7 h8 h9 h10 => (hall r i oi h7 h8 h9 h10).resolve_right ?_
    rintro rfl
    have := D.pos_inj h8 hq
    omega
theorem Inv.congr {S S' : Nat → Prop} {σ : St} (hI : Inv C X ops ord wr nA τ S σ) (h : ∀ i, S i ↔ S' i) : Inv C X ops ord wr nA τ S' σ := by
 have : S = S' := funext fun i => propext (h i)
 rw [← this]; exact hI
theorem count_lt {f g : Nat → Bool} : ∀ {l : List Nat} {i : Nat}, i ∈ l → f i = true → g i = false → (∀ j, g j = true → f j = true) → (l.filter g).length < (l.filter f).length
 | [], _, h, _, _, _ => by simp at h
 | a :: l, i, h, hf, hg, hfg => by
  have hle : ∀ l : List Nat, (l.filter g).length ≤ (l.filter f).length := fun l => by
   induction l with
   | nil => simp
   | cons b l ih =>
    simp only [List.filter_cons]
    cases hgb : g b with
    | true => rw [if_pos rfl, if_pos (hfg b hgb)]; simpa using ih
    | false => rw [if_neg (by simp)]; split <;> (try simp only [List.length_cons]) <;> omega
  simp only [List.filter_cons]
  rcases List.mem_cons.1 h with rfl | h
  ·rw [if_pos hf, if_neg (by simp [hg]), List.length_cons]
   have := hle l; omega
  ·have ih := count_lt h hf hg hfg
   cases hga : g a with
   | true => rw [if_pos rfl, if_pos (hfg a hga)]; simpa using ih
   | false => rw [if_neg (by simp)]; split <;> (try simp only [List.length_cons]) <;> omega
/-- Every order leads there. -/
theorem any_order (D : Drawn C Or Xo X ops ord wr nA clo τ) : ∀ (fuel t : Nat) (listed : Array Bool) (σ : St), listed.size = ops.size →
  Inv C X ops ord wr nA τ (fun i => listed[i]? = some true) σ → ((List.range ops.size).filter fun i => !listed.getD i true).length ≤ fuel →
  Big C Or Xo (.ops X ops (Region.linearise.go .any ops fuel t listed []) σ) (.code .normal (τ ord.length)) := by
 have hdone : ∀ (listed : Array Bool) (σ : St), listed.size = ops.size → Inv C X ops ord wr nA τ (fun i => listed[i]? = some true) σ → (∀ i, i < ops.size → listed[i]? = some true) →
   Big C Or Xo (.ops X ops [] σ) (.code .normal (τ ord.length)) := fun listed σ hs hI hall => by
  rw [D.inv_end hI hall]; exact .opsNil
 intro fuel
 induction fuel with
 | zero =>
  intro t listed σ hs hI hc
  simp only [Region.linearise.go, List.reverse_nil]
  refine hdone listed σ hs hI fun i hi => ?_
  have h0 : ((List.range ops.size).filter fun i => !listed.getD i true) = [] := List.eq_nil_of_length_eq_zero (by omega)
  have := List.filter_eq_nil_iff.1 h0 i (by simpa using hi)
  have hi' : i < listed.size := by omega
  simp [Array.getD_eq_getD_getElem?, hi'] at this
  simp [hi', this]
 | succ fuel ih =>
  intro t listed σ hs hI hc
  simp only [Region.linearise.go]
  change Big C Or Xo (.ops X ops (match (Region.ready .any ops listed)[t % (Region.ready .any ops listed).length]? with
   | some i => Region.linearise.go .any ops fuel (t / (Region.ready .any ops listed).length) (listed.setIfInBounds i true) [i]
   | none => [].reverse) σ) _
  cases hi : (Region.ready .any ops listed)[t % (Region.ready .any ops listed).length]? with
  | none =>
   have hnil : Region.ready .any ops listed = [] := by
    cases hr : Region.ready .any ops listed with
    | nil => rfl
    | cons x xs =>
     rw [hr] at hi
     have hlt : t % (x :: xs).length < (x :: xs).length := Nat.mod_lt _ (by simp)
     simp at hi
     simp at hlt
     omega
   simp only [List.reverse_nil]
   refine hdone listed σ hs hI fun i hi => ?_
   have key : ∀ n i, i < n → i < ops.size → listed[i]? = some true := by
    intro n
    induction n with
    | zero => intro i h; exact absurd h (Nat.not_lt_zero _)
    | succ n ihn =>
     intro i hin his
     have hi' : i < listed.size := by omega
     cases hl : (listed[i]'(hi')) with
     | true => simp [hi', hl]
     | false =>
      exfalso
      have hm : i ∈ Region.ready .any ops listed := by
       simp only [Region.ready, List.mem_filter, List.mem_range]
       refine ⟨his, ?_⟩
       have ho : ops[i]? = some ops[i] := by simp [his]
       simp only [Array.getD_eq_getD_getElem?, ho, Option.map_some, Option.getD_some, Bool.and_eq_true, Bool.not_eq_true', Array.all_eq_true']
       refine ⟨by simp [hi', hl], fun e he => ?_⟩
       simp only [Bool.or_eq_true, Bool.not_eq_true']
       cases hb : Region.binds .any e with
       | false => exact .inl rfl
       | true =>
        have hlt := D.edge i _ e ho he hb
        have := ihn e.on (by omega) (by omega)
        exact .inr (by simp [this])
      rw [hnil] at hm
      simp at hm
   exact key _ i (Nat.lt_succ_self i) hi
  | some i =>
   simp only
   rw [linearise_go_acc, List.reverse_singleton, List.singleton_append]
   have hm := List.mem_of_getElem? hi
   simp only [Region.ready, List.mem_filter, List.mem_range] at hm
   obtain ⟨his, hm⟩ := hm
   have ho : ops[i]? = some ops[i] := by simp [his]
   have hi' : i < listed.size := by omega
   simp only [Array.getD_eq_getD_getElem?, ho, Option.map_some, Option.getD_some, Bool.and_eq_true, Bool.not_eq_true', Array.all_eq_true'] at hm
   obtain ⟨hni, hready⟩ := hm
   have hnot : ¬ (listed[i]? = some true) := fun h => by rw [h] at hni; simp at hni
   obtain ⟨σ', h1, h2⟩ := D.inv_step hI ho hnot (fun e he hb => by
    have := hready e he
    simp only [Bool.or_eq_true, Bool.not_eq_true', hb, Bool.true_eq_false, false_or] at this
    cases hq : listed[e.on]? with
    | none => rw [hq] at this; simp at this
    | some b => rw [hq] at this; simp at this; rw [this])
   refine h1.big (ih _ _ σ' (by simpa using hs) (Inv.congr h2 fun k => ?_) ?_)
   ·simp only [add, Array.getElem?_setIfInBounds]
    by_cases hk : i = k
    ·subst hk; simp [hi']
    ·rw [if_neg hk]
     exact ⟨fun h => h.resolve_right (fun h => hk h.symm), .inl⟩
   ·refine Nat.le_of_lt_succ (Nat.lt_of_lt_of_le (count_lt (i := i) (List.mem_range.2 his) ?_ ?_ ?_) hc)
    ·simp only [Array.getD_eq_getD_getElem?, Bool.not_eq_true']; exact hni
    ·simp [Array.getD_eq_getD_getElem?, Array.getElem?_setIfInBounds, hi']
    ·intro k hk
     simp only [Array.getD_eq_getD_getElem?, Array.getElem?_setIfInBounds] at hk ⊢
     by_cases hik : i = k
     ·subst hik; simp [hi'] at hk
     ·rwa [if_neg hik] at hk
theorem big (D : Drawn C Or Xo X ops ord wr nA clo τ) (t : Nat) : Big C Or Xo (.ops X ops (Region.linearise .any ops t) (τ 0)) (.code .normal (τ ord.length)) := by
 refine D.any_order ops.size t _ _ (by simp) (Inv.congr D.inv_start fun i => ?_) (Nat.le_trans (List.length_filter_le _ _) (by simp))
 constructor
 ·exact False.elim
 ·intro h
  simp only [Array.getElem?_replicate] at h
  split at h <;> simp at h
end Drawn
end
end Go.Dv
