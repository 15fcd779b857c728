/- A part of the proof of InferUses, second form: for every input of bulk at most 1048576 the call returns true and the arguments read as they did. Its condition: that bulk. -/
import Derived.Test.YtanhfhjoeoinoaaGreatDoorU04
import Derived.RangeFuncLeaves
import Derived.RecoverIn
/- What the abstract machine computes: one relation over code, rows of operations, calls. -/
namespace Go.Dv
/-- An activation: its function, its slots' number, its notes; in a round: the loop's record. -/
structure Fr where
 f : FuncId
 n : Nat
 A : FAnn
 round : Option Nat
inductive Ex where
 | normal
 | exit (id : Nat)
 | ret
 deriving DecidableEq
def Ex.code : Ex → Option Code
 | .normal => none
 | .exit id => some (.exit id)
 | .ret => some .ret
def Ex.out (id : Nat) (e : Ex) : Ex := if e = .exit id then .normal else e
inductive Task where
 | code (X : Fr) (c : Code) (σ : St)
 | rounds (X : Fr) (c : Code) (σ : St)
 | ops (X : Fr) (ops : Array Oper) (l : List Nat) (σ : St)
 | call (f : FuncId) (args : List AV) (h : Hp)
inductive Res where
 | code (e : Ex) (σ : St)
 | ret (v : AV) (h : Hp)
def EnvLe (e e' : Env) : Prop := ∀ t x, e t = some x → e' t = some x
def LocLe (l l' : Loc) : Prop := ∀ k cs, l k = some cs → l' k = some cs
/-- What a guard's slot tells. -/
def wantedA (ops : Array Oper) (env : Env) (o : Oper) : Option Bool :=
 match o.guard with
 | none => some true
 | some (j, want) => match ops[j]? with
  | some g => match g.dst with
   | some d => match env d with
    | some (.d (.bool b)) => some (b == want)
    | some (.tuple []) => some false
    | _ => none
   | none => none
  | none => none
def emptyLoc : Loc := fun _ => none
def enterE (args : List AV) : Env := fun t => args[t]?
def resA (C : Ctx) (σ : St) : ResultVar → Option AV
 | .tmp t => match σ.env t with
  | some v => if v.isL then none else some v
  | none => none
 | .cell a t => match σ.env a with
  | some p => loadA C σ.loc σ.h.get t p
  | none => none
def allSome {α : Type} : List (Option α) → Option (List α)
 | [] => some []
 | some x :: r => match allSome r with
  | some l => some (x :: l)
  | none => none
 | none :: _ => none
def retA : List AV → AV
 | [v] => v
 | vs => .tuple vs
/-- A round's slots: what yield was called with. -/
def assignP (n : Nat) : List Nat → List AV → Env → Option Env
 | [], [], e => some e
 | p :: ps, v :: vs, e => if p < n then assignP n ps vs (upd e p v) else none
 | _, _, _ => none
/-- Which call an operation makes. -/
def callOf (C : Ctx) (env : Env) (o : Oper) : Option Eff :=
 match o.op with
 | .call c => match c.callee with
  | .value f => match rho C env f, evalArgs (rho C env) c.args.toList with
   | some v, some args => callValA v args
   | _, _ => none
  | _ => none
 | _ => none
def envOf (l : List (Nat × AV)) : Env := fun t => l.lookup t
/-- A pointer to a variable of the heap, turned into an unsafe one, or such a one turned back into what lies there: the same pointer. -/
def convP (C : Ctx) (h : Hp) (src dst : TypeId) (id off ver : Nat) : Bool :=
 match C.T src, C.T dst with
 | some si, some di => match si.k, di.k with
  | .pointer t, .unsafePointer => match h.get id, C.T t with
   | some (.cells cs v), some ti => Nat.beq v ver && Nat.blt off cs.length && !(Nat.beq ti.size 0)
   | _, _ => false
  | .unsafePointer, .pointer u => match h.ty id, C.T u with
   | some (e, n), some _ => Nat.beq ver 0 && liesAt C.P C.P.depth e (n / C.P.cellsOf e) off u 1
   | _, _ => false
  | _, _ => false
 | _, _ => false
def byteCellsA : List AV → Option (List UInt8)
 | [] => some []
 | .d (.int .u8 n) :: r => if 0 ≤ n ∧ n < 256 then match byteCellsA r with
   | some l => some (UInt8.ofNat n.toNat :: l)
   | none => none
  else none
 | _ :: _ => none
/-- The bytes at the head of a row of bytes of the heap, for 'unsafe.String'. -/
def strP (C : Ctx) (h : Hp) (ats : Array TypeId) (id off ver : Nat) (n : Int) : Option (List UInt8) :=
 match ats.toList with
 | [pt, _] => match C.T pt with
  | some { k := .pointer e, .. } => match C.T e, h.el id, h.get id with
   | some ei, some e', some (.cells cs v) =>
    if e' = e ∧ ei.size = 1 ∧ off = 0 ∧ v = ver ∧ 0 < n ∧ n ≤ 2 ^ 40 then match takeExact n.toNat 0 cs with
     | some r => byteCellsA r
     | none => none
    else none
   | _, _, _ => none
  | _ => none
 | _ => none
def loopOf (X : Fr) (env : List (Nat × AV)) (ps : Array Tmp) (assign body : Code) : LoopR :=
 { state := .ready, pending := none, fn := X.f, env := env, params := ps, assign := assign, body := body, n := X.n }
/-- A value that leans on no object. -/
def deepV : AV → Bool
 | .d _ => true
 | .tuple vs => (allD vs).isSome
 | _ => false
/-- A function that, ahead of all else but c0, defers a closure that recovers, and does nothing where there is nothing to recover. -/
structure Deferring (C : Ctx) (f : FuncId) (fn : Func) (c0 c1 : Code) (d : Nat) (g : FuncId) (cap : Array Operand) : Prop where
 hf : C.P.funcs[f]? = some fn
 body : ∃ rid t1 p1 e1 t2 p2 e2 ats, fn.body = some (.seq c0 (.seq (.region rid #[⟨some d, .makeFunc (.func g) #[] cap, t1, p1, e1, none⟩, ⟨none, .defer ⟨.value (.tmp d), #[], ats⟩, t2, p2, e2, none⟩] false) c1))
 lt : d < fn.ntmps
 guard : ∃ gn r q p b i0 i1 t1 p1 e1 t2 p2 e2 t3 p3 e3 t4 p4 e4 ats T U ti cc, C.P.funcs[g]? = some gn ∧ gn.results = #[] ∧ r < gn.ntmps ∧ q < gn.ntmps ∧ p < gn.ntmps ∧ b < gn.ntmps ∧
  C.T T = some ti ∧ ti.k = .iface ∧
  gn.body = some (.seq (.region i0 #[⟨some r, .call ⟨.builtin .recover, #[], ats⟩, t1, p1, e1, none⟩, ⟨some q, .assign (.tmp r), t2, p2, e2, none⟩] false)
   (.seq (.region i1 #[⟨some p, .move (.tmp q), t3, p3, e3, none⟩, ⟨some b, .binOp .neq T (.tmp p) (.const .nilIface) U, t4, p4, e4, none⟩] false) (.cond (.tmp b) cc .skip)))
variable (C : Ctx) (Or : FuncId → List AV → Hp → AV → Hp → Prop) (Xo : FuncId → List AV → AV → Prop)
inductive Big : Task → Res → Prop
 | skip {X σ} : Big (.code X .skip σ) (.code .normal σ)
 | label {X l σ} : Big (.code X (.label l) σ) (.code .normal σ)
 | exit {X id σ} : Big (.code X (.exit id) σ) (.code (.exit id) σ)
 | ret {X σ} : Big (.code X .ret σ) (.code .ret σ)
 | seq {X a b σ σ₁ r} (h1 : Big (.code X a σ) (.code .normal σ₁)) (h2 : Big (.code X b σ₁) r) : Big (.code X (.seq a b) σ) r
 | seqX {X a b σ e σ₁} (h1 : Big (.code X a σ) (.code e σ₁)) (he : e ≠ .normal) : Big (.code X (.seq a b) σ) (.code e σ₁)
 | cond {X c a b σ t r} (hc : rho C σ.env c = some (.d (.bool t))) (h : Big (.code X (if t then a else b) σ) r) : Big (.code X (.cond c a b) σ) r
 | block {X id c σ e σ₁} (h : Big (.code X c σ) (.code e σ₁)) : Big (.code X (.block id c) σ) (.code (e.out id) σ₁)
 | scope {X c σ e σ₁} (h : Big (.code X c σ) (.code e σ₁)) : Big (.code X (.scope c) σ) (.code e σ₁)
 | forget {X c σ E L r} (hE : EnvLe E σ.env) (hL : LocLe L σ.loc) (h : Big (.code X c ⟨E, L, σ.h⟩) r) : Big (.code X c σ) r
 | forgetR {X c σ E L r} (hE : EnvLe E σ.env) (hL : LocLe L σ.loc) (h : Big (.rounds X c ⟨E, L, σ.h⟩) r) : Big (.rounds X c σ) r
 | loop {X c σ r} (h : Big (.rounds X c σ) r) : Big (.code X (.loop c) σ) r
 | rounds {X c σ σ₁ r} (h1 : Big (.code X c σ) (.code .normal σ₁)) (h2 : Big (.rounds X c σ₁) r) : Big (.rounds X c σ) r
 | roundsX {X c σ e σ₁} (h1 : Big (.code X c σ) (.code e σ₁)) (he : e ≠ .normal) : Big (.rounds X c σ) (.code e σ₁)
 | region {X id ops σ σ₁ E} (h : Big (.ops X ops (List.range ops.size) σ) (.code .normal σ₁)) (hE : EnvLe E σ₁.env) :
   Big (.code X (.region id ops false) σ) (.code .normal { σ₁ with env := E })
 | drawn {X id ops σ E₀ σ₁ E} (h0 : EnvLe E₀ σ.env) (h : ∀ t, Big (.ops X ops (Region.linearise .any ops t) { σ with env := E₀ }) (.code .normal σ₁)) (hE : EnvLe E σ₁.env) :
   Big (.code X (.region id ops true) σ) (.code .normal { σ₁ with env := E })
 | opsNil {X ops σ} : Big (.ops X ops [] σ) (.code .normal σ)
 | opsNone {X ops i l σ r} (ho : ops[i]? = none) (h : Big (.ops X ops l σ) r) : Big (.ops X ops (i :: l) σ) r
 | opsOff {X ops i l σ o E r} (ho : ops[i]? = some o) (hg : wantedA ops σ.env o = some false)
   (hE : putD X.n σ.env o.dst (.tuple []) = some E) (h : Big (.ops X ops l { σ with env := E }) r) : Big (.ops X ops (i :: l) σ) r
 | opsOp {X ops i l σ o eff σ₁ r} (ho : ops[i]? = some o) (hg : wantedA ops σ.env o = some true)
   (he : opA C X.A (rho C σ.env) σ.loc σ.h.get o = some eff) (ha : applyEff X.A X.n o.dst σ eff = some σ₁)
   (h : Big (.ops X ops l σ₁) r) : Big (.ops X ops (i :: l) σ) r
 | opsCall {X ops i l σ o f args v h' σ₁ r} (ho : ops[i]? = some o) (hg : wantedA ops σ.env o = some true)
   (hcall : callOf C σ.env o = some (.call f args)) (hc : Big (.call f args σ.h) (.ret v h'))
   (ha : putV X.A X.n o.dst { σ with h := h' } v = some σ₁) (h : Big (.ops X ops l σ₁) r) : Big (.ops X ops (i :: l) σ) r
 | opsExt {X ops i l σ o f args v σ₁ r} (ho : ops[i]? = some o) (hg : wantedA ops σ.env o = some true)
   (hcall : callOf C σ.env o = some (.call f args)) (hx : Xo f args v)
   (ha : putV X.A X.n o.dst σ v = some σ₁) (h : Big (.ops X ops l σ₁) r) : Big (.ops X ops (i :: l) σ) r
 | opsConv {X ops i l σ o src dst x id off ver σ₁ r} (ho : ops[i]? = some o) (hg : wantedA ops σ.env o = some true) (hop : o.op = .convert src dst x)
   (hx : rho C σ.env x = some (.ptr id off ver)) (hc : convP C σ.h src dst id off ver = true) (ha : putV X.A X.n o.dst σ (.ptr id off ver) = some σ₁)
   (h : Big (.ops X ops l σ₁) r) : Big (.ops X ops (i :: l) σ) r
 | opsStr {X ops i l σ o c id off ver n s σ₁ r} (ho : ops[i]? = some o) (hg : wantedA ops σ.env o = some true) (hop : o.op = .call c) (hcal : c.callee = .builtin .unsafeString)
   (hx : evalArgs (rho C σ.env) c.args.toList = some [.ptr id off ver, .d (.int .i64 n)]) (hs : strP C σ.h c.argTypes id off ver n = some s)
   (ha : putV X.A X.n o.dst { σ with h := σ.h.del id } (.d (.str s)) = some σ₁) (h : Big (.ops X ops l σ₁) r) : Big (.ops X ops (i :: l) σ) r
 | opsYield {X ops i l σ o id args rec env σ₁ rec₁ e σ₂ rec₂ σ₃ r} (ho : ops[i]? = some o) (hg : wantedA ops σ.env o = some true)
   (hcall : callOf C σ.env o = some (.yield id args))
   (hr : σ.h.get id = some (.loop rec)) (hp : assignP rec.n rec.params.toList args (envOf rec.env) = some env)
   (h1 : Big (.code ⟨rec.fn, rec.n, C.A rec.fn, some id⟩ rec.assign ⟨env, emptyLoc, σ.h⟩) (.code .normal σ₁))
   (hr1 : σ₁.h.get id = some (.loop rec₁)) (hs : rec₁.state = .ready)
   (h2 : Big (.code ⟨rec.fn, rec.n, C.A rec.fn, some id⟩ rec.body ⟨σ₁.env, σ₁.loc, σ₁.h.set id (.loop { rec₁ with state := .busy })⟩) (.code e σ₂))
   (hr2 : σ₂.h.get id = some (.loop rec₂))
   (ha : putV X.A X.n o.dst { σ with h := σ₂.h.set id (.loop { rec₂ with state := if e = .normal then .ready else .done, pending := e.code }) } (vbool (e = .normal)) = some σ₃)
   (h : Big (.ops X ops l σ₃) r) : Big (.ops X ops (i :: l) σ) r
 | rangeFunc {X g ps assign body σ fv f args env v h' rec e} (hg : rho C σ.env g = some fv) (hro : ∀ id, X.round = some id → ∃ l, σ.h.get id = some (.loop l))
   (hv : callValA fv [.yld σ.h.next] = some (.call f args)) (hE : EnvLe (envOf env) σ.env) (hL : ∀ t x, env.lookup t = some x → x.isL = false)
   (hc : Big (.call f args (σ.h.alloc (.loop (loopOf X env ps assign body)))) (.ret v h'))
   (hr : h'.get σ.h.next = some (.loop rec)) (hs : rec.state ≠ .busy) (hp : rec.pending = e.code) :
   Big (.code X (.rangeFunc g ps assign body) σ) (.code e { σ with h := h'.del σ.h.next })
 | call {f fn body args h e σ vs} (hf : C.P.funcs[f]? = some fn) (hb : fn.body = some body)
   (h1 : Big (.code ⟨f, fn.ntmps, C.A f, none⟩ body ⟨enterE args, emptyLoc, h⟩) (.code e σ)) (he : e = .normal ∨ e = .ret)
   (hr : allSome (fn.results.toList.map (resA C σ)) = some vs) : Big (.call f args h) (.ret (retA vs) σ.h)
 | callD {f fn c0 c1 d g cap args h cs σ₀ e σ vs} (hD : Deferring C f fn c0 c1 d g cap)
   (h0 : Big (.code ⟨f, fn.ntmps, C.A f, none⟩ c0 ⟨enterE args, emptyLoc, h⟩) (.code .normal σ₀)) (hcap : evalArgs (rho C σ₀.env) cap.toList = some cs)
   (h1 : Big (.code ⟨f, fn.ntmps, C.A f, none⟩ c1 { σ₀ with env := upd σ₀.env d (.clo g [] cs) }) (.code e σ)) (he : e = .normal ∨ e = .ret)
   (hr : allSome (fn.results.toList.map (resA C σ)) = some vs) : Big (.call f args h) (.ret (retA vs) σ.h)
 | closed {f args h v h₀} (h1 : Big (.call f args .empty) (.ret v h₀)) (hv : deepV v = true) (ha : (allD args).isSome = true) : Big (.call f args h) (.ret v h)
 | oracle {f args h v h'} (ho : Or f args h v h') : Big (.call f args h) (.ret v h')
end Go.Dv
/- Calls: what an operation that calls hands on. -/
namespace Go.Dv
section
variable {C : Ctx} {A : FAnn} {n : Nat} {m m' : Nat → Nat → Option Nat} {I I' : Nat → Prop} {w w' : World} {lm lm' : Nat → Option Nat} {σ σ' : St} {tmps : Array Value} {a : Act}
/-- A value is called. -/
theorem callVal_run {P : Program} {fv : AV} {v : Value} {args : List AV} {vs : List Value} {f : FuncId} {args' : List AV} (hf : VRel m I w lm fv v) (ha : URels m I w args vs)
  (hc : callValA fv args = some (.call f args')) : ∃ vs' d, URels m I w args' vs' ∧ (Deferred.ofValue v ⟨vs⟩).run P w = .ok d w ∧
   (invoke d.target d.args).run P w = (callFunc f ⟨vs'⟩).run P w := by
 unfold callValA at hc
 split at hc
 ·simp at hc; obtain ⟨rfl, rfl⟩ := hc
  have hu := hf.d
  cases hu
  refine ⟨vs, _, ha, rfl, ?_⟩
  simp [invoke]
 ·simp at hc; obtain ⟨rfl, rfl⟩ := hc
  have hu := hf.toU rfl
  cases hu
  rename_i first cap fs cs hlf h1 hlc h2
  refine ⟨fs ++ (vs ++ cs), _, URels.append ⟨hlf, h1⟩ (URels.append ha ⟨hlc, h2⟩), rfl, ?_⟩
  simp [invoke]
 ·cases hc
 ·cases hc
theorem callVal_yield {P : Program} {fv : AV} {v : Value} {args : List AV} {vs : List Value} {id : Nat} {args' : List AV} (hf : VRel m I w lm fv v)
  (hc : callValA fv args = some (.yield id args')) : args' = args ∧ ∃ l d, m id 0 = some l ∧ (Deferred.ofValue v ⟨vs⟩).run P w = .ok d w ∧
   (invoke d.target d.args).run P w = (Instr.yield l ⟨vs⟩).run P w := by
 unfold callValA at hc
 split at hc
 ·cases hc
 ·cases hc
 ·simp at hc; obtain ⟨rfl, rfl⟩ := hc
  have hu := hf.toU rfl
  cases hu
  rename_i l hl
  exact ⟨rfl, l, _, hl, rfl, by simp [invoke]⟩
 ·cases hc
theorem run_callFunc {P : Program} {f : FuncId} {fn : Func} {c : Code} (hf : P.funcs[f]? = some fn) (hname : fn.name ≠ "runtime.NumGoroutine") (hb : fn.body = some c) (args : Array Value) (w : World) :
  (callFunc f args).run P w = .ok (.enter f args) w := by
 simp [callFunc, hf, hname, hb]
theorem noDefer {o : Oper} {ρ : Operand → Option AV} {L : Loc} {H : Nat → Option Obj} {eff : Eff} (he : opA C A ρ L H o = some eff) : ∀ c, o.op ≠ .defer c := by
 intro c hc
 unfold opA at he
 rw [hc] at he
 cases he
theorem semAt_of {o : Oper} {ρ : Operand → Option AV} {L : Loc} {H : Nat → Option Obj} {eff : Eff} {r : Option Nat} {ρ' : Operand → Value} (he : opA C A ρ L H o = some eff) :
  o.semAt r ρ' = execOp ρ' o := Oper.semAt_eq r ρ' o (noDefer he)
theorem callOf_spec {o : Oper} {env : Env} {eff : Eff} (he : callOf C env o = some eff) :
  ∃ c g fv as, o.op = .call c ∧ c.callee = .value g ∧ rho C env g = some fv ∧ evalArgs (rho C env) c.args.toList = some as ∧ callValA fv as = some eff := by
 unfold callOf at he
 split at he
 ·rename_i c hop
  split at he
  ·rename_i g hg
   split at he
   ·rename_i v as hv has
    exact ⟨c, g, v, as, hop, hg, hv, has, he⟩
   ·cases he
  ·cases he
 ·cases he
theorem array_map_list' {α β : Type} (f : α → β) (xs : Array α) : xs.map f = ⟨xs.toList.map f⟩ := by
 apply Array.ext'; simp
/-- An operation that calls. -/
theorem call_op {o : Oper} {f : FuncId} {args : List AV} {r : Option Nat} (hS : SRel C n m I w lm σ a.tmps) (he : callOf C σ.env o = some (.call f args)) :
  ∃ vs, URels m I w args vs ∧ (o.semAt r a.eval).run C.P w = (callFunc f ⟨vs⟩).run C.P w := by
 obtain ⟨c, g, fv, as, hop, hcal, hg, has, hcv⟩ := callOf_spec he
 obtain ⟨vs', d, hu, hd, hi⟩ := callVal_run (P := C.P) (hS.rho hg) (evalArgs_rel hS has) hcv
 refine ⟨vs', hu, ?_⟩
 rw [Oper.semAt_eq r a.eval o (fun c' h => by rw [hop] at h; cases h)]
 simp only [execOp, hop, resolve, hcal, Sem.run_bind, array_map_list', hd, Result.andThen_ok]
 exact hi
theorem yield_op {o : Oper} {id : Nat} {args : List AV} {r : Option Nat} (hS : SRel C n m I w lm σ a.tmps) (he : callOf C σ.env o = some (.yield id args)) :
  ∃ l vs, m id 0 = some l ∧ URels m I w args vs ∧ (o.semAt r a.eval).run C.P w = (Instr.yield l ⟨vs⟩).run C.P w := by
 obtain ⟨c, g, fv, as, hop, hcal, hg, has, hcv⟩ := callOf_spec he
 obtain ⟨rfl, l, d, hl, hd, hi⟩ := callVal_yield (P := C.P) (vs := c.args.toList.map a.eval) (hS.rho hg) hcv
 refine ⟨l, _, hl, evalArgs_rel hS has, ?_⟩
 rw [Oper.semAt_eq r a.eval o (fun c' h => by rw [hop] at h; cases h)]
 simp only [execOp, hop, resolve, hcal, Sem.run_bind, array_map_list', hd, Result.andThen_ok]
 exact hi
/-- What a guard's slot tells. -/
theorem wanted_rel {ops : Array Oper} {o : Oper} {b : Bool} (hS : SRel C n m I w lm σ a.tmps) (hw : wantedA ops σ.env o = some b) : Region.wanted o (yielded ops a.tmps) = b := by
 unfold wantedA at hw
 split at hw
 ·rename_i hg
  simp at hw; subst hw
  simp [Region.wanted, hg]
 ·rename_i j want hg
  split at hw
  ·rename_i g hj
   split at hw
   ·rename_i d hd
    split at hw
    ·rename_i x hx
     simp at hw; subst hw
     have hv := (hS.env d _ hx).boolV
     have hsz : d < a.tmps.size := by
      rcases Nat.lt_or_ge d a.tmps.size with h | h
      ·exact h
      ·simp [Array.getD_eq_getD_getElem?, Array.getElem?_eq_none h, undef] at hv
     have hq : a.tmps[d]? = some (.bool x) := by
      simp [Array.getD_eq_getD_getElem?, hsz] at hv
      simp [hsz, hv]
     have hy : yielded ops a.tmps j = some x := by
      unfold yielded
      simp only [hj, Option.bind_some, hd, hq]
     simp only [Region.wanted, hg, hy]
     cases x <;> cases want <;> rfl
    ·rename_i hx
     simp at hw; subst hw
     have hu := (hS.env d _ hx).toU rfl
     have hv : a.tmps.getD d undef = .tuple #[] := by
      generalize a.tmps.getD d undef = v at hu
      cases hu
      rename_i vs hl _
      cases vs with
      | nil => rfl
      | cons => simp at hl
     have hy : yielded ops a.tmps j = none := by
      unfold yielded
      simp only [hj, Option.bind_some, hd]
      rcases Nat.lt_or_ge d a.tmps.size with h | h
      ·simp [Array.getD_eq_getD_getElem?, h] at hv
       simp [h, hv]
      ·simp [Array.getElem?_eq_none h]
     simp only [Region.wanted, hg, hy]
     rfl
    ·cases hw
   ·cases hw
  ·cases hw
end
end Go.Dv
/- What is shown of each task; the rules of control. -/
namespace Go.Dv
def fenceOf (l : Option Nat) : Fence := { Fence.wide with round := l }
theorem fenceOf_room (l : Option Nat) (n : Nat) : (fenceOf l).room n := fun d h => by simp [fenceOf, Fence.wide] at h
def RoundOk (m : Nat → Nat → Option Nat) : Option Nat → Option Nat → Prop
 | none, none => True
 | some id, some l => m id 0 = some l
 | _, _ => False
theorem RoundOk.mono {m m' : Nat → Nat → Option Nat} (hm : MLe m m') : ∀ {r l : Option Nat}, RoundOk m r l → RoundOk m' r l
 | none, none, _ => trivial
 | some id, some l, h => hm _ _ _ h
def exOf : Ex → Exit
 | .normal => .normal
 | .exit id => .exit id
 | .ret => .ret
/-- The deferred calls of an activation: marks of ranges over functions, whose blocks nobody touches. -/
structure DfOK0 (lo : Nat) (m : Nat → Nat → Option Nat) (w : World) (h : Hp) (lm : Nat → Option Nat) (L : Loc) (ds : List Deferred) : Prop where
 le : lo ≤ w.heap.size
 all : ∀ d ∈ ds, ∃ b, lo ≤ b ∧ d.target = .collected b ∧ w.heap[b]? = some (.deferred (some [])) ∧ ¬ Tch m h b ∧ ¬ isLoc lm L b
 nd : ds.Pairwise fun x y => x.target ≠ y.target
section
variable {C : Ctx} {X : Fr} {m m' : Nat → Nat → Option Nat} {I I' : Nat → Prop} {w w' : World} {h h' : Hp} {lm lm' : Nat → Option Nat} {L L' : Loc} {σ σ₁ σ₂ : St} {a : Act}
theorem lt_of_some {α : Type} {xs : Array α} {i : Nat} {x : α} (h : xs[i]? = some x) : i < xs.size := by
 rcases Nat.lt_or_ge i xs.size with h1 | h1
 ·exact h1
 ·rw [Array.getElem?_eq_none h1] at h; cases h
theorem DfOK0.step {lo : Nat} {ds : List Deferred} (hd : DfOK0 lo m w h lm L ds) (st : Step m I w h lm L m' I' w' h' lm' L') : DfOK0 lo m' w' h' lm' L' ds := by
 refine ⟨Nat.le_trans hd.le st.wle.size, fun d hm => ?_, hd.nd⟩
 obtain ⟨b, hlo, ht, hb, hnt, hnl⟩ := hd.all d hm
 have hlt := lt_of_some hb
 refine ⟨b, hlo, ht, by rw [st.frame b hlt hnt hnl]; exact hb, fun h1 => ?_, fun h1 => ?_⟩
 ·rcases st.newT b h1 with h2 | h2
  ·exact hnt h2
  ·omega
 ·rcases st.newL b h1 with h2 | h2
  ·exact hnl h2
  ·omega
theorem DfOK0.nil : DfOK0 w.heap.size m w h lm L [] := ⟨Nat.le_refl _, fun d hd => by simp at hd, .nil⟩
/-- Where an activation's own marks begin; the deferred calls that it had ahead of them. -/
structure Lo where
 n : Nat
 base : List Deferred
def DfOK (lo : Lo) (m : Nat → Nat → Option Nat) (w : World) (h : Hp) (lm : Nat → Option Nat) (L : Loc) (ds : List Deferred) : Prop :=
 ∃ ms, ds = ms ++ lo.base ∧ DfOK0 lo.n m w h lm L ms
theorem DfOK.step {lo : Lo} {ds : List Deferred} (hd : DfOK lo m w h lm L ds) (st : Step m I w h lm L m' I' w' h' lm' L') : DfOK lo m' w' h' lm' L' ds :=
 let ⟨ms, e, h0⟩ := hd
 ⟨ms, e, h0.step st⟩
theorem DfOK.nil {base : List Deferred} : DfOK ⟨w.heap.size, base⟩ m w h lm L base := ⟨[], rfl, DfOK0.nil⟩
def SndCode (C : Ctx) (X : Fr) (c : Code) (σ : St) (e : Ex) (σ' : St) : Prop :=
 ∀ (l : Option Nat) (lo : Lo) m I w lm (a : Act) (Q : Exit → Act → World → Prop), RoundOk m X.round l → SRel C X.n m I w lm σ a.tmps → DfOK lo m w σ.h lm σ.loc a.defers →
  (∀ m' I' w' lm' (a' : Act), SRel C X.n m' I' w' lm' σ' a'.tmps → Step m I w σ.h lm σ.loc m' I' w' σ'.h lm' σ'.loc → DfOK lo m' w' σ'.h lm' σ'.loc a'.defers → Q (exOf e) a' w') →
  c.wpIn (fenceOf l) 0 C.P Q a w
def SndRounds (C : Ctx) (X : Fr) (c : Code) (σ : St) (e : Ex) (σ' : St) : Prop :=
 ∀ (l : Option Nat) (lo : Lo) m I w lm (a : Act) (Q : Exit → Act → World → Prop), RoundOk m X.round l → SRel C X.n m I w lm σ a.tmps → DfOK lo m w σ.h lm σ.loc a.defers →
  (∀ m' I' w' lm' (a' : Act), SRel C X.n m' I' w' lm' σ' a'.tmps → Step m I w σ.h lm σ.loc m' I' w' σ'.h lm' σ'.loc → DfOK lo m' w' σ'.h lm' σ'.loc a'.defers → Q (exOf e) a' w') →
  ∀ (b : Frame) (k : List Item) (cs : List Frame), b.roundOf = (fenceOf l).round →
   ∃ e' a' w', Q e' a' w' ∧ ArrivesIn (Machine.fenced C.P (fenceOf l)) C.P (lone (b.atR a (.code c :: .inLoop c :: k)) cs w) b k cs e' a' w'
def SndOps (C : Ctx) (X : Fr) (ops : Array Oper) (is : List Nat) (σ σ' : St) : Prop :=
 ∀ (l : Option Nat) (lo : Lo) m I w lm (a : Act) (Q : Exit → Act → World → Prop), RoundOk m X.round l → SRel C X.n m I w lm σ a.tmps → DfOK lo m w σ.h lm σ.loc a.defers →
  (∀ m' I' w' lm' (a' : Act), SRel C X.n m' I' w' lm' σ' a'.tmps → Step m I w σ.h lm σ.loc m' I' w' σ'.h lm' σ'.loc → DfOK lo m' w' σ'.h lm' σ'.loc a'.defers → Q .normal a' w') →
  wpOpsIn (fenceOf l) 0 C.P ops Q is a w
def lm0 : Nat → Option Nat := fun _ => none
def SndCall (C : Ctx) (f : FuncId) (args : List AV) (h : Hp) (v : AV) (h' : Hp) : Prop :=
 (∃ fn c, C.P.funcs[f]? = some fn ∧ fn.body = some c) ∧
 ∀ m I w vs (R : Ending → World → Prop), Rel m I w C h → URels m I w args vs →
  (∀ m' I' w' r, Rel m' I' w' C h' → URel m' I' w' v r → Step m I w h lm0 emptyLoc m' I' w' h' lm0 emptyLoc → R (.returned r) w') →
  CallsIn Fence.wide 0 C.P f ⟨vs⟩ w R
theorem snd_skip : SndCode C X .skip σ .normal σ := fun _ _ _ _ _ _ _ _ _ hS hd hQ => wpIn_skip (hQ _ _ _ _ _ hS Step.refl hd)
theorem snd_label {l : Nat} : SndCode C X (.label l) σ .normal σ := fun _ _ _ _ _ _ _ _ _ hS hd hQ => wpIn_label (hQ _ _ _ _ _ hS Step.refl hd)
theorem snd_exit {id : Nat} : SndCode C X (.exit id) σ (.exit id) σ := fun _ _ _ _ _ _ _ _ _ hS hd hQ => wpIn_exit (hQ _ _ _ _ _ hS Step.refl hd)
theorem snd_ret : SndCode C X .ret σ .ret σ := fun _ _ _ _ _ _ _ _ _ hS hd hQ => wpIn_ret (hQ _ _ _ _ _ hS Step.refl hd)
theorem snd_seq {x y : Code} {e : Ex} (h1 : SndCode C X x σ .normal σ₁) (h2 : SndCode C X y σ₁ e σ₂) : SndCode C X (.seq x y) σ e σ₂ :=
 fun l _ _ _ _ _ _ Q hr hS hd hQ => wpIn_seq (h1 l _ _ _ _ _ _ _ hr hS hd fun _ _ _ _ _ hS1 st1 hd1 =>
  h2 l _ _ _ _ _ _ Q (hr.mono st1.mle) hS1 hd1 fun _ _ _ _ _ hS2 st2 hd2 => hQ _ _ _ _ _ hS2 (st1.trans st2) hd2)
theorem snd_seqX {x y : Code} {e : Ex} (h1 : SndCode C X x σ e σ₁) (he : e ≠ .normal) : SndCode C X (.seq x y) σ e σ₁ :=
 fun l _ _ _ _ _ _ Q hr hS hd hQ => wpIn_seq (h1 l _ _ _ _ _ _ _ hr hS hd fun _ _ _ _ _ hS1 st1 hd1 => by
  have := hQ _ _ _ _ _ hS1 st1 hd1
  cases e <;> first | exact absurd rfl he | exact this)
theorem snd_cond {c : Operand} {x y : Code} {t : Bool} {e : Ex} (hc : rho C σ.env c = some (.d (.bool t))) (h1 : SndCode C X (if t then x else y) σ e σ₁) :
  SndCode C X (.cond c x y) σ e σ₁ :=
 fun l _ _ _ _ _ _ Q hr hS hd hQ => wpIn_cond (hS.rho hc).boolV (h1 l _ _ _ _ _ _ Q hr hS hd hQ)
theorem snd_block {id : Nat} {c : Code} {e : Ex} (h1 : SndCode C X c σ e σ₁) : SndCode C X (.block id c) σ (e.out id) σ₁ :=
 fun l _ _ _ _ _ _ Q hr hS hd hQ => wpIn_block (h1 l _ _ _ _ _ _ _ hr hS hd fun _ _ _ _ _ hS1 st1 hd1 => by
  have := hQ _ _ _ _ _ hS1 st1 hd1
  cases e with
  | normal => simpa [Ex.out, exOf, Exit.inBlock] using this
  | ret => simpa [Ex.out, exOf, Exit.inBlock] using this
  | exit i =>
   by_cases hi : i = id
   ·simpa [Ex.out, exOf, Exit.inBlock, hi] using this
   ·simpa [Ex.out, exOf, Exit.inBlock, hi] using this)
theorem stepR_scope {P : Program} {b : Frame} {a : Act} {k : List Item} {cs : List Frame} {w : World} {c : Code} :
  step P (lone (b.atR a (.code (.scope c) :: k)) cs w) = .next (lone (b.atR a (.code c :: .inScope c :: k)) cs w) :=
 step_lone_go (by simp [stepG, stepG.exec, Frame.atR])
theorem stepR_inScope {P : Program} {b : Frame} {a : Act} {k : List Item} {cs : List Frame} {w : World} {c : Code} :
  step P (lone (b.atR a (.inScope c :: k)) cs w) = .next (lone (b.atR a k) cs w) :=
 step_lone_go (by simp [stepG, stepG.exec, Frame.atR])
theorem snd_scope {c : Code} {e : Ex} (h1 : SndCode C X c σ e σ₁) : SndCode C X (.scope c) σ e σ₁ := by
 intro l lo m I w lm a Q hr hS hd hQ b k cs hro hb hroom
 have h0 : ∀ a w i, (match i with | Item.code (.scope _) => True | .inScope _ => True | _ => False) → (lone (b.atR a (i :: k)) cs w).fenced C.P (fenceOf l) := fun a w i hi =>
  fenced_calm hb hroom (by cases i <;> first | rfl | (rename_i cc; cases cc <;> first | rfl | exact hi.elim) | exact hi.elim)
 obtain ⟨e', a', w', hq, harr⟩ := h1 l lo m I w lm a (fun e' a' w' => e' = exOf e ∧ Q e' a' w') hr hS hd (fun _ _ _ _ _ h1 h2 h3 => ⟨rfl, hQ _ _ _ _ _ h1 h2 h3⟩) b (.inScope c :: k) cs hro hb hroom
 obtain ⟨rfl, hq⟩ := hq
 have hs := StepsIn.one (h0 a w _ trivial) (stepR_scope (P := C.P) (b := b) (a := a) (k := k) (cs := cs) (w := w) (c := c))
 refine ⟨exOf e, a', w', hq, .of_steps hs ?_⟩
 cases e with
 | normal => exact StepsIn.trans harr (.one (h0 a' w' _ trivial) stepR_inScope)
 | ret => exact harr
 | exit id => exact ⟨fun k' hk => harr.1 k' hk, fun hr' hk => harr.2 hr' hk⟩
theorem snd_loop {c : Code} {e : Ex} (h1 : SndRounds C X c σ e σ₁) : SndCode C X (.loop c) σ e σ₁ := by
 intro l lo m I w lm a Q hr hS hd hQ b k cs hro hb hroom
 obtain ⟨e', a', w', hq, harr⟩ := h1 l lo m I w lm a Q hr hS hd hQ b k cs hro
 exact ⟨e', a', w', hq, .of_steps (.one (fenced_calm hb hroom rfl) stepR_loop) harr⟩
theorem snd_rounds {c : Code} {e : Ex} (h1 : SndCode C X c σ .normal σ₁) (h2 : SndRounds C X c σ₁ e σ₂) : SndRounds C X c σ e σ₂ := by
 intro l lo m I w lm a Q hr hS hd hQ b k cs hro
 have hb : (fenceOf l).fn b.fn := trivial
 have hroom := fenceOf_room l (cs.length + 1 + 0)
 obtain ⟨e', a', w', ⟨rfl, hq⟩, harr⟩ := h1 l lo m I w lm a (fun e' a' w' => e' = .normal ∧ ∃ e₂ a₂ w₂, Q e₂ a₂ w₂ ∧ ArrivesIn (Machine.fenced C.P (fenceOf l)) C.P (lone (b.atR a' (.code c :: .inLoop c :: k)) cs w') b k cs e₂ a₂ w₂) hr hS hd
  (fun m1 I1 w1 lm1 a1 hS1 st1 hd1 => ⟨rfl, h2 l lo m1 I1 w1 lm1 a1 Q (hr.mono st1.mle) hS1 hd1 (fun _ _ _ _ _ hS2 st2 hd2 => hQ _ _ _ _ _ hS2 (st1.trans st2) hd2) b k cs hro⟩) b (.inLoop c :: k) cs hro hb hroom
 obtain ⟨e₂, a₂, w₂, hq₂, harr₂⟩ := hq
 exact ⟨e₂, a₂, w₂, hq₂, .of_steps (StepsIn.trans harr (.one (fenced_calm hb hroom rfl) stepR_inLoop)) harr₂⟩
theorem snd_roundsX {c : Code} {e : Ex} (h1 : SndCode C X c σ e σ₁) (he : e ≠ .normal) : SndRounds C X c σ e σ₁ := by
 intro l lo m I w lm a Q hr hS hd hQ b k cs hro
 have hb : (fenceOf l).fn b.fn := trivial
 have hroom := fenceOf_room l (cs.length + 1 + 0)
 obtain ⟨e', a', w', ⟨rfl, hq⟩, harr⟩ := h1 l lo m I w lm a (fun e' a' w' => e' = exOf e ∧ Q e' a' w') hr hS hd (fun _ _ _ _ _ h1 h2 h3 => ⟨rfl, hQ _ _ _ _ _ h1 h2 h3⟩) b (.inLoop c :: k) cs hro hb hroom
 refine ⟨exOf e, a', w', hq, .pass (x := .inLoop c) rfl (fun _ _ => .inl ?_) harr⟩
 cases e <;> first | exact absurd rfl he | simp [exOf]
theorem SRel.keep {n : Nat} {tmps : Array Value} {E : Env} (hS : SRel C n m I w lm σ tmps) (hE : EnvLe E σ.env) : SRel C n m I w lm { σ with env := E } tmps :=
 SRel.sub hS rfl rfl hE
theorem isLoc_le {lm : Nat → Option Nat} {L L' : Loc} (hL : LocLe L L') {b : Nat} (h : isLoc lm L b) : isLoc lm L' b := by
 obtain ⟨k, hk, hb⟩ := h
 obtain ⟨cs, hcs⟩ := Option.isSome_iff_exists.1 hk
 exact ⟨k, by rw [hL k cs hcs]; rfl, hb⟩
theorem SRel.less {n : Nat} {tmps : Array Value} {E : Env} {L : Loc} (hS : SRel C n m I w lm σ tmps) (hE : EnvLe E σ.env) (hL : LocLe L σ.loc) : SRel C n m I w lm ⟨E, L, σ.h⟩ tmps := by
 refine ⟨hS.rel, ⟨fun k cs hcs => hS.loc.obj k cs (hL k cs hcs), fun k k' b hk hk' => hS.loc.inj k k' b ?_ ?_⟩, hS.size, fun t x hx => hS.env t x (hE t x hx)⟩
 ·obtain ⟨cs, hcs⟩ := Option.isSome_iff_exists.1 hk
  rw [hL k cs hcs]; rfl
 ·obtain ⟨cs, hcs⟩ := Option.isSome_iff_exists.1 hk'
  rw [hL k' cs hcs]; rfl
theorem Step.less {L'' : Loc} {lm'' : Nat → Option Nat} (hL : LocLe L L') (st : Step m I w h lm L m' I' w' h' lm'' L'') : Step m I w h lm L' m' I' w' h' lm'' L'' :=
 ⟨st.mle, st.sub, st.wle, fun b hb ht hl => st.frame b hb ht (fun h1 => hl (isLoc_le hL h1)), st.newI, st.newT, fun b hb => (st.newL b hb).imp (isLoc_le hL) id⟩
theorem DfOK.less {lo : Lo} {ds : List Deferred} (hL : LocLe L L') (hd : DfOK lo m w h lm L' ds) : DfOK lo m w h lm L ds := by
 obtain ⟨ms, e, h0⟩ := hd
 refine ⟨ms, e, h0.le, fun d hm => ?_, h0.nd⟩
 obtain ⟨b, h1, h2, h3, h4, h5⟩ := h0.all d hm
 exact ⟨b, h1, h2, h3, h4, fun h6 => h5 (isLoc_le hL h6)⟩
theorem snd_forget {c : Code} {E : Env} {L : Loc} {e : Ex} (hE : EnvLe E σ.env) (hL : LocLe L σ.loc) (h1 : SndCode C X c ⟨E, L, σ.h⟩ e σ₁) : SndCode C X c σ e σ₁ :=
 fun l lo m I w lm a Q hr hS hd hQ => h1 l lo m I w lm a Q hr (hS.less hE hL) (hd.less hL) fun _ _ _ _ _ hS1 st1 hd1 => hQ _ _ _ _ _ hS1 (st1.less hL) hd1
theorem snd_forgetR {c : Code} {E : Env} {L : Loc} {e : Ex} (hE : EnvLe E σ.env) (hL : LocLe L σ.loc) (h1 : SndRounds C X c ⟨E, L, σ.h⟩ e σ₁) : SndRounds C X c σ e σ₁ :=
 fun l lo m I w lm a Q hr hS hd hQ => h1 l lo m I w lm a Q hr (hS.less hE hL) (hd.less hL) fun _ _ _ _ _ hS1 st1 hd1 => hQ _ _ _ _ _ hS1 (st1.less hL) hd1
theorem snd_region {id : Nat} {ops : Array Oper} {E : Env} (h1 : SndOps C X ops (List.range ops.size) σ σ₁) (hE : EnvLe E σ₁.env) :
  SndCode C X (.region id ops false) σ .normal { σ₁ with env := E } :=
 fun l _ _ _ _ _ _ Q hr hS hd hQ => wpIn_region (h1 l _ _ _ _ _ _ Q hr hS hd fun _ _ _ _ _ hS1 st1 hd1 => hQ _ _ _ _ _ (hS1.keep hE) st1 hd1)
theorem snd_drawn {id : Nat} {ops : Array Oper} {E₀ E : Env} (hm : C.P.follows .mixedOrders = true) (h0 : EnvLe E₀ σ.env) (h1 : ∀ t, SndOps C X ops (Region.linearise .any ops t) { σ with env := E₀ } σ₁) (hE : EnvLe E σ₁.env) :
  SndCode C X (.region id ops true) σ .normal { σ₁ with env := E } := by
 intro l lo m I w lm a Q hr hS hd hQ
 refine wpIn_region_draw fun t => ?_
 simp only [Region.schedule, hm, Bool.true_or, if_true]
 have g := GrowI.drew I w
 have st0 := Step.grow (m := m) (h := σ.h) (lm := lm) (L := σ.loc) g
 exact h1 t l _ _ _ _ _ _ Q hr ((hS.grow g).keep h0) (hd.step st0) fun _ _ _ _ _ hS1 st1 hd1 => hQ _ _ _ _ _ (hS1.keep hE) (st0.trans st1) hd1
theorem snd_opsNil {ops : Array Oper} : SndOps C X ops [] σ σ := fun _ _ _ _ _ _ _ _ _ hS hd hQ => hQ _ _ _ _ _ hS Step.refl hd
theorem snd_opsNone {ops : Array Oper} {i : Nat} {is : List Nat} (ho : ops[i]? = none) (h1 : SndOps C X ops is σ σ₁) : SndOps C X ops (i :: is) σ σ₁ :=
 fun l _ _ _ _ _ _ Q hr hS hd hQ => by simp only [wpOpsIn, ho]; exact h1 l _ _ _ _ _ _ Q hr hS hd hQ
theorem snd_opsOff {ops : Array Oper} {i : Nat} {is : List Nat} {o : Oper} (ho : ops[i]? = some o) (hg : wantedA ops σ.env o = some false) {E : Env}
  (hE : putD X.n σ.env o.dst (.tuple []) = some E) (h1 : SndOps C X ops is { σ with env := E } σ₁) : SndOps C X ops (i :: is) σ σ₁ :=
 fun l _ _ _ _ _ a Q hr hS hd hQ => by
  simp only [wpOpsIn, ho, wanted_rel hS hg, Bool.false_eq_true, if_false]
  refine ⟨fun _ _ => trivial, h1 l _ _ _ _ _ _ Q hr (SRel.putD hS (.inr (.tuple [] [] rfl (fun i x y hx => by simp at hx))) hE) ?_ hQ⟩
  cases hod : o.dst <;> exact hd
theorem put_defers (a : Act) (d : Option Tmp) (v : Value) : (a.put d v).defers = a.defers := by cases d <;> rfl
theorem snd_opsOp (hC : COk C) (hE : EOk C) {ops : Array Oper} {i : Nat} {is : List Nat} {o : Oper} {eff : Eff} (ho : ops[i]? = some o) (hg : wantedA ops σ.env o = some true)
  (he : opA C X.A (Dv.rho C σ.env) σ.loc σ.h.get o = some eff) (ha : applyEff X.A X.n o.dst σ eff = some σ₁) (h1 : SndOps C X ops is σ₁ σ₂) : SndOps C X ops (i :: is) σ σ₂ := by
 intro l lo m I w lm a Q hr hS hd hQ
 simp only [wpOpsIn, ho, wanted_rel hS hg, if_true]
 obtain ⟨nxt, w', v', hrun, hn, m', I', lm', hS1, st1⟩ := op_out hC hE hS he ha
 refine ⟨fun _ _ => trivial, ?_⟩
 rw [semAt_of he, hrun]
 have hd1 : DfOK lo m' w' σ₁.h lm' σ₁.loc (a.put o.dst v').defers := by rw [put_defers]; exact hd.step st1
 have key := h1 l _ _ _ _ _ _ Q (hr.mono st1.mle) hS1 hd1 (fun _ _ _ _ _ hS2 st2 hd2 => hQ _ _ _ _ _ hS2 (st1.trans st2) hd2)
 rcases hn with rfl | ⟨rfl, rfl⟩
 ·exact key
 ·exact key
end
end Go.Dv
/- Calls are sound. -/
namespace Go.Dv
section
variable {C : Ctx} {X : Fr} {n : Nat} {m m' : Nat → Nat → Option Nat} {I I' : Nat → Prop} {w w' : World} {h h' : Hp} {lm lm' lme : Nat → Option Nat} {L L' : Loc} {σ σ₁ σ₂ : St} {a : Act} {tmps : Array Value}
theorem notLoc_empty (lm : Nat → Option Nat) (b : Nat) : ¬ isLoc lm emptyLoc b := by
 rintro ⟨k, hk, _⟩
 simp [emptyLoc] at hk
/-- Behind a call: the activation stands as before, over the memory that the call has left. -/
theorem SRel.called {lme lme' : Nat → Option Nat} (hS : SRel C n m I w lm σ tmps) (hR : Rel m' I' w' C h') (st : Step m I w σ.h lme emptyLoc m' I' w' h' lme' emptyLoc) :
  SRel C n m' I' w' lm { σ with h := h' } tmps ∧ Step m I w σ.h lm σ.loc m' I' w' h' lm σ.loc := by
 have hkI : Keeps I w w' := fun b hb => st.frame b (hS.rel.iLt hb) (fun h => hS.rel.tchNotI h hb) (notLoc_empty _ b)
 refine ⟨⟨hR, ⟨fun k cs hcs => ?_, hS.loc.inj⟩, hS.size, fun t x hx => (hS.env t x hx).mono st.mle st.sub st.wle hkI (fun _ _ _ h => h)⟩,
  ⟨st.mle, st.sub, st.wle, fun b hb ht _ => st.frame b hb ht (notLoc_empty _ b), st.newI, st.newT, fun b hb => .inl hb⟩⟩
 obtain ⟨b, hb, hlt, hn, ht, hc⟩ := hS.loc.obj k cs hcs
 refine ⟨b, hb, Nat.lt_of_lt_of_le hlt st.wle.size, fun h1 => ?_, fun h1 => ?_, hc.mono st.mle st.sub st.wle hkI (st.frame b hlt ht (notLoc_empty _ b))⟩
 ·rcases st.newI b h1 with h2 | h2 | h2
  ·exact hn h2
  ·omega
  ·exact ht h2
 ·rcases st.newT b h1 with h2 | h2
  ·exact ht h2
  ·omega
/-- The program has no function that the machine of the model answers by itself. -/
def PlainNames (C : Ctx) : Prop := ∀ (f : FuncId) (fn : Func), C.P.funcs[f]? = some fn → fn.name ≠ "runtime.NumGoroutine"
theorem snd_opsCall (hN : PlainNames C) {ops : Array Oper} {i : Nat} {is : List Nat} {o : Oper} {f : FuncId} {args : List AV} {v : AV} (ho : ops[i]? = some o) (hg : wantedA ops σ.env o = some true)
  (hcall : callOf C σ.env o = some (.call f args)) (hc : SndCall C f args σ.h v h') (ha : putV X.A X.n o.dst { σ with h := h' } v = some σ₁) (h1 : SndOps C X ops is σ₁ σ₂) :
  SndOps C X ops (i :: is) σ σ₂ := by
 intro l lo m I w lm a Q hr hS hd hQ
 simp only [wpOpsIn, ho, wanted_rel hS hg, if_true]
 obtain ⟨vs, hu, hrun⟩ := call_op (r := (fenceOf l).round) hS hcall
 obtain ⟨⟨fn, c, hf, hb⟩, hcalls⟩ := hc
 refine ⟨fun _ _ => trivial, ?_⟩
 rw [hrun, run_callFunc hf (hN f fn hf) hb]
 refine ⟨fun h => by simp [fenceOf, Fence.wide] at h, hcalls m I w vs _ hS.rel hu fun m1 I1 w1 r hR1 hv1 st1 => ?_⟩
 obtain ⟨hS1, st1⟩ := hS.called hR1 st1
 obtain ⟨I2, hS2, st2⟩ := putV_sound (a := a) hS1 (.inr hv1) ha
 have st12 := st1.trans st2
 have hd1 : DfOK lo m1 w1 σ₁.h lm σ₁.loc (a.put o.dst r).defers := by rw [put_defers]; exact hd.step st12
 exact h1 l _ _ _ _ _ _ Q (hr.mono st12.mle) hS2 hd1 (fun _ _ _ _ _ hS3 st3 hd3 => hQ _ _ _ _ _ hS3 (st12.trans st3) hd3)
theorem convP_run (hC : COk C) (hR : Rel m I w C h) {src dst : TypeId} {id off ver b : Nat} (hb : m id ver = some b) (hc : convP C h src dst id off ver = true) :
  (convert src dst (.pointer (some ⟨b, off, none⟩))).run C.P w = .ok (.pointer (some ⟨b, off, none⟩)) w := by
 unfold convP at hc
 split at hc
 ·rename_i si di hsi hdi
  obtain ⟨d1, hd1, hk1, _⟩ := (hC _ _ hsi).und
  obtain ⟨d2, hd2, hk2, _⟩ := (hC _ _ hdi).und
  split at hc
  ·rename_i t h1 h2
   rw [h1] at hk1; rw [h2] at hk2
   cases d1 <;> simp only [KOk] at hk1 <;> try exact hk1.elim
   cases d2 <;> simp only [KOk] at hk2 <;> try exact hk2.elim
   subst hk1
   split at hc
   ·rename_i cs v ti hg hti
    simp only [Bool.and_eq_true, Bool.not_eq_true'] at hc
    obtain ⟨⟨hv, hoff⟩, hsz⟩ := hc
    have hv := Nat.eq_of_beq_eq_true hv
    subst hv
    have hoff := (Nat.le_of_ble_eq_true hoff : off < cs.length)
    obtain ⟨b', hb', _, c, e, hh, hl, _⟩ := hR.obj id _ hg
    have hbb : m id v = some b' := hb'
    rw [hb] at hbb; cases hbb
    have hshape : w.shape? b = some (e, c.size) := by simp [World.shape?, hh]
    obtain ⟨ie, hie, hsz', _⟩ := (hC _ _ hti).info
    have hne : ie.size ≠ 0 := by rw [hsz']; intro h0; rw [h0] at hsz; cases hsz
    have hlt : ¬ (c.size ≤ off) := by omega
    simp [convert, run_underlying hd1, run_underlying hd2, Conv.unsafePointer, Conv.seenAt, viewAt, hshape, cellsIn, run_sizeOf_i w hie, hne, hlt]
   ·cases hc
  ·rename_i u h1 h2
   rw [h1] at hk1; rw [h2] at hk2
   cases d1 <;> simp only [KOk] at hk1 <;> try exact hk1.elim
   cases d2 <;> simp only [KOk] at hk2 <;> try exact hk2.elim
   subst hk2
   split at hc
   ·rename_i e n ti hty hti
    obtain ⟨ie, hie, _⟩ := (hC _ _ hti).info
    simp only [Bool.and_eq_true] at hc
    obtain ⟨hv, hla⟩ := hc
    have hv := Nat.eq_of_beq_eq_true hv
    subst hv
    obtain ⟨b', hb', hbt⟩ := hR.ty id _ hty
    rw [hb] at hb'; cases hb'
    have hshape : w.shape? b = some (e, n) := hbt
    simp [convert, run_underlying hd1, run_underlying hd2, Conv.unsafePointer, Conv.seenAt, viewAt, hshape, variablesAt, hla, run_sizeOf_i w hie]
   ·cases hc
  ·cases hc
 ·cases hc
theorem snd_opsConv (hC : COk C) {ops : Array Oper} {i : Nat} {is : List Nat} {o : Oper} {src dst : TypeId} {x : Operand} {id off ver : Nat} (ho : ops[i]? = some o) (hg : wantedA ops σ.env o = some true)
  (hop : o.op = .convert src dst x) (hx : rho C σ.env x = some (.ptr id off ver)) (hc : convP C σ.h src dst id off ver = true) (ha : putV X.A X.n o.dst σ (.ptr id off ver) = some σ₁)
  (h1 : SndOps C X ops is σ₁ σ₂) : SndOps C X ops (i :: is) σ σ₂ := by
 intro l lo m I w lm a Q hr hS hd hQ
 simp only [wpOpsIn, ho, wanted_rel hS hg, if_true]
 obtain ⟨b, hb, hv⟩ := (hS.rho hx).ptrV
 have hrun : (o.semAt (fenceOf l).round a.eval).run C.P w = .ok (.value (a.eval x)) w := by
  rw [Oper.semAt_eq _ a.eval o (fun c' h => by rw [hop] at h; cases h)]
  simp [execOp, hop, hv, convP_run hC hS.rel hb hc]
 refine ⟨fun _ _ => trivial, ?_⟩
 rw [hrun]
 obtain ⟨I2, hS2, st2⟩ := putV_sound (a := a) (v := a.eval x) hS (hS.rho hx) ha
 have hd1 : DfOK lo m w σ₁.h lm σ₁.loc (a.put o.dst (a.eval x)).defers := by rw [put_defers]; exact hd.step st2
 exact h1 l _ _ _ _ _ _ Q (hr.mono st2.mle) hS2 hd1 (fun _ _ _ _ _ hS3 st3 hd3 => hQ _ _ _ _ _ hS3 (st2.trans st3) hd3)
theorem byteCells_spec : ∀ {cs : List AV} {l : List UInt8}, byteCellsA cs = some l → cs = l.map fun b => .d (.int .u8 (b.toNat : Int))
 | [], l, h => by simp [byteCellsA] at h; subst h; rfl
 | .d (.int .u8 n) :: r, l, h => by
  simp only [byteCellsA] at h
  split at h
  ·rename_i hn
   split at h
   ·rename_i l' hl
    simp only [Option.some.injEq] at h; subst h
    rw [byteCells_spec hl]
    have h1 : ((UInt8.ofNat n.toNat).toNat : Int) = n := by
     rw [UInt8.toNat_ofNat']
     omega
    simp only [List.map_cons, h1]
   ·cases h
  ·cases h
theorem T_pointer (hC : COk C) {t : TypeId} {e : TypeId} {sz : Nat} {ag : Bool} {by_ : Nat} {z : List DV} (hti : C.T t = some { k := .pointer e, size := sz, agg := ag, bytes := by_, zero := z }) :
  C.P.underlying t = some (.pointer e) := by
 obtain ⟨d, hd, hk, _⟩ := (hC _ _ hti).und
 cases d <;> simp [KOk] at hk
 subst hk; exact hd
theorem strP_run (hC : COk C) (hS : SRel C n m I w lm σ tmps) {ats : Array TypeId} {ty : TypeId} {id off ver b : Nat} {k : Int} {s : List UInt8} (hb : m id ver = some b) (hs : strP C σ.h ats id off ver k = some s) :
  (Builtin.unsafeString_ ats ty #[.pointer (some ⟨b, off, none⟩), .int .i64 k]).run C.P w = .ok (.string ⟨⟨s⟩⟩) (w.freeze ⟨b, off, none⟩ k.toNat) ∧ ∃ cs, σ.h.get id = some (.cells cs ver) := by
 unfold strP at hs
 split at hs
 ·rename_i pt it hats
  have hat : ats = #[pt, it] := by apply Array.ext'; simpa using hats
  split at hs
  ·rename_i e _ _ _ _ hti
   have hp := T_pointer hC hti
   split at hs
   ·rename_i ei e' cs v hei hel hg
    split at hs
    ·rename_i hc
     obtain ⟨rfl, hsz, rfl, rfl, h0, hbig⟩ := hc
     split at hs
     ·rename_i r hr
      obtain ⟨hrl, hrget⟩ := takeExact_spec hr
      have hcs := byteCells_spec hs
      obtain ⟨b', hb', _, c, ce, hh, hl, hcells⟩ := hS.rel.obj id _ hg
      simp only [Obj.ver] at hb'
      rw [hb] at hb'; cases hb'
      obtain ⟨b2, k2, hb2, hbt⟩ := hS.rel.el id _ _ hg hel
      simp only [Obj.ver] at hb2
      rw [hb] at hb2; cases hb2
      obtain ⟨ie, hie, hisz, _⟩ := T_info hC hei
      have hco : C.P.cellsOf e' = 1 := by simp [Program.cellsOf, hie, hisz, hsz]
      have hshape : w.shape? b = some (e', k2) := hbt
      have hk2 : k2 = c.size := by
       have := hbt; unfold btype at this; rw [hh] at this; simp at this; exact this.2.symm
      have hsl : s.length = k.toNat := by rw [← hrl, hcs]; simp
      have hkk : k = (s.length : Int) := by omega
      have hne : s ≠ [] := by rintro rfl; simp at hsl; omega
      have hlast : k.toNat ≤ cs.length := by
       have h2 := hrget (k.toNat - 1) r[k.toNat - 1] (by simp)
       have := (List.getElem?_eq_some_iff.1 h2).1
       omega
      have := Lib.run_unsafeString_row (P := C.P) w pt it ty e' hp hco b k2 hshape s hne (by omega) (by omega) (fun j x hx => by
       have hj : j < s.length := (List.getElem?_eq_some_iff.1 hx).1
       have h3 : r[j]? = some (.d (.int .u8 x.toNat)) := by rw [hcs]; simp [hx]
       have h4 := hrget j _ h3
       obtain ⟨y, hy, hu⟩ := hcells _ _ h4
       have h5 := hu.toD
       cases hq : y <;> rw [hq] at h5 <;> cases h5
       rw [add_none, cell_of_block hh, hy, hq])
      rw [hat, hkk]
      refine ⟨?_, cs, hg⟩
      rw [this]
      simp
     ·cases hs
    ·cases hs
   ·cases hs
  ·cases hs
 ·cases hs
theorem btype_freeze (w : World) (a : Addr) (k b : Nat) : btype (w.freeze a k) b = btype w b := by
 by_cases h0 : k = 0
 ·simp [World.freeze, h0]
 ·simp only [World.freeze, h0, if_false, btype, Array.getElem?_modify]
  by_cases hb : a.block = b
  ·subst hb
   simp only [if_true]
   cases hh : w.heap[a.block]? with
   | none => rfl
   | some o => cases o <;> rfl
  ·rw [if_neg hb]
theorem freeze_other {w : World} {a : Addr} {k b : Nat} (h : b ≠ a.block) : (w.freeze a k).heap[b]? = w.heap[b]? := by
 unfold World.freeze
 split
 ·rfl
 ·simp only [Array.getElem?_modify]
  rw [if_neg (fun h' => h h'.symm)]
theorem WLe.freeze (w : World) (a : Addr) (k : Nat) : WLe w (w.freeze a k) := by
 refine ⟨?_, ?_, ?_, ?_, fun b x hx => by rw [btype_freeze]; exact hx⟩ <;> unfold World.freeze <;> split <;> simp
theorem snd_opsStr (hC : COk C) {ops : Array Oper} {i : Nat} {is : List Nat} {o : Oper} {c : Call} {id off ver : Nat} {k : Int} {s : List UInt8} (ho : ops[i]? = some o) (hg : wantedA ops σ.env o = some true)
  (hop : o.op = .call c) (hcal : c.callee = .builtin .unsafeString) (hx : evalArgs (rho C σ.env) c.args.toList = some [.ptr id off ver, .d (.int .i64 k)]) (hs : strP C σ.h c.argTypes id off ver k = some s)
  (ha : putV X.A X.n o.dst { σ with h := σ.h.del id } (.d (.str s)) = some σ₁) (h1 : SndOps C X ops is σ₁ σ₂) : SndOps C X ops (i :: is) σ σ₂ := by
 intro l lo m I w lm a Q hr hS hd hQ
 simp only [wpOpsIn, ho, wanted_rel hS hg, if_true]
 have hrel := evalArgs_rel hS hx
 have hca : ∃ x0 x1, c.args = #[x0, x1] := by
  have h1 := hrel.1
  match hcl : c.args.toList, h1 with
  | [x0, x1], _ => exact ⟨x0, x1, by apply Array.ext'; simpa using hcl⟩
 obtain ⟨x0, x1, hca⟩ := hca
 have hx0 : VRel m I w lm (.ptr id off ver) (a.eval x0) := .inr (hrel.2 0 _ _ rfl (by simp [hca]))
 have hx1 : VRel m I w lm (.d (.int .i64 k)) (a.eval x1) := .inr (hrel.2 1 _ _ rfl (by simp [hca]))
 obtain ⟨b, hb, hv0⟩ := hx0.ptrV
 have hv1 := hx1.intV
 obtain ⟨hstr, cs, hget⟩ := strP_run (ty := o.type) hC hS hb hs
 have hrun : (o.semAt (fenceOf l).round a.eval).run C.P w = .ok (.value (.string ⟨⟨s⟩⟩)) (w.freeze ⟨b, off, none⟩ k.toNat) := by
  rw [Oper.semAt_eq _ a.eval o (fun c' h => by rw [hop] at h; cases h)]
  simp [execOp, hop, resolve, hcal, hca, invoke, builtin, hv0, hv1, hstr]
 refine ⟨fun _ _ => trivial, ?_⟩
 rw [hrun]
 have hfree := hS.forgotten hget hb
 have hS1 := SRel.wild (w' := w.freeze ⟨b, off, none⟩ k.toNat) (hS.forget id) hfree (WLe.freeze w _ _) (fun x hx _ => freeze_other hx)
 have st1 : Step m I w σ.h lm σ.loc m I (w.freeze ⟨b, off, none⟩ k.toNat) (σ.h.del id) lm σ.loc := by
  refine ⟨MLe.refl _, fun _ h => h, WLe.freeze w _ _, fun y hy ht _ => freeze_other (fun hbl => ht ⟨_, _, hget, hbl ▸ hb⟩), fun _ h => .inl h, fun y hy => ?_, fun _ h => .inl h⟩
  obtain ⟨j, o', ho', hm⟩ := hy
  simp only [Hp.del, Dv.del] at ho'
  split at ho'
  ·cases ho'
  ·exact .inl ⟨j, o', ho', hm⟩
 obtain ⟨I2, hS2, st2⟩ := putV_sound (a := a) (v := .string ⟨⟨s⟩⟩) hS1 (.inr (.d _ _ (.str s))) ha
 have st12 := st1.trans st2
 have hd1 : DfOK lo m (w.freeze ⟨b, off, none⟩ k.toNat) σ₁.h lm σ₁.loc (a.put o.dst (.string ⟨⟨s⟩⟩)).defers := by rw [put_defers]; exact hd.step st12
 exact h1 l _ _ _ _ _ _ Q (hr.mono st12.mle) hS2 hd1 (fun _ _ _ _ _ hS3 st3 hd3 => hQ _ _ _ _ _ hS3 (st12.trans st3) hd3)
def SndExt (C : Ctx) (f : FuncId) (args : List AV) (v : AV) : Prop :=
 ∀ m I w vs, URels m I w args vs → ∃ r I' w', (callFunc f ⟨vs⟩).run C.P w = .ok (.value r) w' ∧ GrowI I w I' w' ∧ URel m I' w' v r
theorem snd_opsExt {ops : Array Oper} {i : Nat} {is : List Nat} {o : Oper} {f : FuncId} {args : List AV} {v : AV} (ho : ops[i]? = some o) (hg : wantedA ops σ.env o = some true)
  (hcall : callOf C σ.env o = some (.call f args)) (hx : SndExt C f args v) (ha : putV X.A X.n o.dst σ v = some σ₁) (h1 : SndOps C X ops is σ₁ σ₂) :
  SndOps C X ops (i :: is) σ σ₂ := by
 intro l lo m I w lm a Q hr hS hd hQ
 simp only [wpOpsIn, ho, wanted_rel hS hg, if_true]
 obtain ⟨vs, hu, hrun⟩ := call_op (r := (fenceOf l).round) hS hcall
 obtain ⟨r, I1, w1, hx1, g, hv⟩ := hx m I w vs hu
 refine ⟨fun _ _ => trivial, ?_⟩
 rw [hrun, hx1]
 have st1 := Step.grow (m := m) (h := σ.h) (lm := lm) (L := σ.loc) g
 obtain ⟨I2, hS2, st2⟩ := putV_sound (a := a) (hS.grow g) (.inr hv) ha
 have st12 := st1.trans st2
 have hd1 : DfOK lo m w1 σ₁.h lm σ₁.loc (a.put o.dst r).defers := by rw [put_defers]; exact hd.step st12
 exact h1 l _ _ _ _ _ _ Q (hr.mono st12.mle) hS2 hd1 (fun _ _ _ _ _ hS3 st3 hd3 => hQ _ _ _ _ _ hS3 (st12.trans st3) hd3)
/-- A whole heap is put aside. -/
theorem Rel.empty (hR : Rel m I w C h) : Rel (fun _ _ => none) I w C .empty :=
 ⟨fun id o ho => by simp [Hp.empty] at ho, fun id o _ _ _ ho => by simp [Hp.empty] at ho, fun id o ho => by simp [Hp.empty] at ho, fun _ _ _ => rfl, fun _ _ _ _ _ => rfl,
  fun _ _ _ (hm : none = some _) => (nomatch hm), hR.imm, hR.glob, fun id t ht => by simp [Hp.empty] at ht, fun id o e ho => by simp [Hp.empty] at ho⟩
theorem allD_urels {m' : Nat → Nat → Option Nat} {args : List AV} {vs : List Value} (h : (allD args).isSome = true) (hu : URels m I w args vs) : URels m' I w args vs := by
 obtain ⟨ds, hds⟩ := Option.isSome_iff_exists.1 h
 have := allD_spec hds
 refine ⟨hu.1, fun i x y hx hy => ?_⟩
 have h1 := hu.2 i x y hx hy
 rw [this] at hx
 simp only [List.getElem?_map, Option.map_eq_some_iff] at hx
 obtain ⟨d, _, rfl⟩ := hx
 exact .d _ _ h1.toD
theorem deepV_urel {m' : Nat → Nat → Option Nat} {v : AV} {r : Value} (hv : deepV v = true) (hu : URel m I w v r) : URel m' I w v r := by
 cases v <;> simp only [deepV, Bool.false_eq_true] at hv
 ·exact .d _ _ hu.toD
 ·cases hu
  rename_i cs us hl hr
  have := allD_urels (m' := m') hv (⟨hl, hr⟩ : URels m I w cs us)
  exact .tuple _ _ this.1 this.2
theorem snd_closed {f : FuncId} {args : List AV} {v : AV} {h₀ : Hp} (h1 : SndCall C f args .empty v h₀) (hv : deepV v = true) (ha : (allD args).isSome = true) : SndCall C f args h v h := by
 refine ⟨h1.1, fun m I w vs R hR hu hQ => h1.2 (fun _ _ => none) I w vs R hR.empty (allD_urels ha hu) fun m1 I1 w1 r hR1 hv1 st1 => ?_⟩
 have hno : ∀ b, ¬ Tch (fun _ _ => none) .empty b := by rintro b ⟨id, o, ho, _⟩; simp [Hp.empty] at ho
 have hold : ∀ b, b < w.heap.size → w1.heap[b]? = w.heap[b]? := fun b hb => st1.frame b hb (hno b) (notLoc_empty _ b)
 have hnew : ∀ b, I1 b → I b ∨ (w.heap.size ≤ b ∧ (bsize w1 b).isSome = true) := fun b hb => by
  rcases st1.newI b hb with h2 | h2 | h2
  ·exact .inl h2
  ·exact .inr ⟨h2, hR1.imm b hb⟩
  ·exact absurd h2 (hno b)
 have g : GrowI I w I1 w1 := ⟨st1.sub, st1.wle, hold, hnew⟩
 refine hQ m I1 w1 r (hR.mono (MLe.refl m) g.sub g.wle g.old g.new hR.fr1 hR.fr2 (fun id v b hb => Nat.lt_of_lt_of_le (hR.mlt id v b hb) g.wle.size)) (deepV_urel hv hv1) (Step.grow g)
theorem allSome_spec {α : Type} : ∀ {l : List (Option α)} {r : List α}, allSome l = some r → l = r.map some
 | [], r, h => by simp [allSome] at h; subst h; rfl
 | some x :: l, r, h => by
  simp only [allSome] at h
  split at h
  ·rename_i l' hl
   simp at h; subst h
   rw [allSome_spec hl]; rfl
  ·cases h
 | none :: l, r, h => by simp [allSome] at h
/-- Run a row of runs. -/
theorem run_mapM_list {P : Program} {α β : Type} {f : α → Sem β} {w : World} : ∀ {xs : List α} {ys : List β}, ys.length = xs.length → (∀ (i : Nat) x y, xs[i]? = some x → ys[i]? = some y → (f x).run P w = .ok y w) →
  (xs.mapM f).run P w = .ok ys w
 | [], [], _, _ => by simp
 | [], _ :: _, h, _ => by simp at h
 | _ :: _, [], h, _ => by simp at h
 | x :: xs, y :: ys, hl, h => by
  have h0 := h 0 x y rfl rfl
  have ih := run_mapM_list (f := f) (w := w) (P := P) (xs := xs) (ys := ys) (by simpa using hl) (fun i a b ha hb => h (i + 1) a b (by simpa using ha) (by simpa using hb))
  simp [List.mapM_cons, h0, ih]
theorem choose_list {α β γ : Type} {R : α → β → γ → Prop} : ∀ {xs : List α} {ys : List β}, ys.length = xs.length → (∀ (i : Nat) x y, xs[i]? = some x → ys[i]? = some y → ∃ u, R x y u) →
  ∃ us : List γ, us.length = xs.length ∧ ∀ (i : Nat) x y u, xs[i]? = some x → ys[i]? = some y → us[i]? = some u → R x y u
 | [], [], _, _ => ⟨[], rfl, fun i x y u hx => by simp at hx⟩
 | [], _ :: _, h, _ => by simp at h
 | _ :: _, [], h, _ => by simp at h
 | x :: xs, y :: ys, hl, h => by
  obtain ⟨u, hu⟩ := h 0 x y rfl rfl
  obtain ⟨us, h1, h2⟩ := choose_list (R := R) (xs := xs) (ys := ys) (by simpa using hl) (fun i a b ha hb => h (i + 1) a b (by simpa using ha) (by simpa using hb))
  refine ⟨u :: us, by simp [h1], fun i a b c ha hb hc => ?_⟩
  cases i with
  | zero => simp at ha hb hc; subst ha; subst hb; subst hc; exact hu
  | succ i => exact h2 i a b c (by simpa using ha) (by simpa using hb) (by simpa using hc)
theorem results_rel (hC : COk C) {fn : Func} {vs : List AV} (hS : SRel C n m I w lm σ tmps) (hr : allSome (fn.results.toList.map (resA C σ)) = some vs) :
  ∃ r, (results fn tmps).run C.P w = .ok r w ∧ URel m I w (retA vs) r := by
 have hl := allSome_spec hr
 have hlen : vs.length = fn.results.toList.length := by have := congrArg List.length hl; simpa using this.symm
 have hone : ∀ (i : Nat) x y, fn.results.toList[i]? = some x → vs[i]? = some y → ∃ r, (match x with
   | .tmp t => pure (tmps.getD t undef)
   | .cell a t => do loadVar t (← asAddr (tmps.getD a undef)) : Sem Value).run C.P w = .ok r w ∧ URel m I w y r := by
  intro i x y hx hy
  have h1 : (fn.results.toList.map (resA C σ))[i]? = some (resA C σ x) := by simp only [List.getElem?_map, hx, Option.map_some]
  rw [hl] at h1
  simp only [List.getElem?_map, hy, Option.map_some, Option.some.injEq] at h1
  cases x with
  | tmp t =>
   simp only [resA] at h1
   split at h1
   ·rename_i z hz
    split at h1
    ·cases h1
    ·rename_i hzl
     simp at h1; subst h1
     exact ⟨_, rfl, (hS.env t _ hz).toU (by simpa using hzl)⟩
   ·cases h1
  | cell ad t =>
   simp only [resA] at h1
   split at h1
   ·rename_i p hp
    obtain ⟨r, hrun, hu⟩ := loadA_rel hC hS.rel hS.loc (hS.env ad _ hp) h1.symm
    refine ⟨r, ?_, hu⟩
    simp only [Instr.loadAt, Sem.run_bind] at hrun ⊢
    cases hv : tmps.getD ad undef with
    | pointer p => cases p <;> first | exact hrun | (rw [hv] at hrun; simp [Instr.sureAddr] at hrun; done) | (rw [hv] at hrun; exact hrun)
    | _ => rw [hv] at hrun; simp [Instr.sureAddr] at hrun; done
   ·cases h1
 have hvs : ∃ us : List Value, (fn.results.toList.mapM fun | .tmp t => pure (tmps.getD t undef) | .cell a t => do loadVar t (← asAddr (tmps.getD a undef)) : Sem (List Value)).run C.P w = .ok us w ∧ URels m I w vs us := by
  have hch : ∃ us : List Value, us.length = fn.results.toList.length ∧ ∀ (i : Nat) x y, fn.results.toList[i]? = some x → us[i]? = some y → (match x with
   | .tmp t => pure (tmps.getD t undef)
   | .cell a t => do loadVar t (← asAddr (tmps.getD a undef)) : Sem Value).run C.P w = .ok y w ∧ ∀ z, vs[i]? = some z → URel m I w z y := by
   obtain ⟨us, h1, h2⟩ := choose_list hlen hone
   refine ⟨us, h1, fun i x y hx hy => ?_⟩
   have hi : i < vs.length := by have := (List.getElem?_eq_some_iff.1 hx).1; omega
   have h3 := h2 i x _ y hx (List.getElem?_eq_getElem hi) hy
   exact ⟨h3.1, fun z hz => by rw [List.getElem?_eq_getElem hi] at hz; simp at hz; subst hz; exact h3.2⟩
  obtain ⟨us, hul, hus⟩ := hch
  refine ⟨us, run_mapM_list hul fun i x y hx hy => ?_, by omega, fun i x y hx hy => ?_⟩
  ·exact (hus i x y hx hy).1
  ·have hi : i < fn.results.toList.length := by have := (List.getElem?_eq_some_iff.1 hy).1; omega
   exact (hus i _ y (List.getElem?_eq_getElem hi) hy).2 x hx
 obtain ⟨us, hrun, hu⟩ := hvs
 have hrun2 : (results fn tmps).run C.P w = .ok (if h : us.toArray.size = 1 then us.toArray[0] else .tuple us.toArray) w := by
  unfold results
  rw [Array.mapM_eq_mapM_toList]
  simp only [Sem.run_bind, Sem.run_map]
  erw [hrun]
  rfl
 refine ⟨_, hrun2, ?_⟩
 match vs, us, hu with
 | [v], [u], hu => exact hu.2 0 v u rfl rfl
 | [], [], hu => exact .tuple [] [] rfl (fun i x y hx => by simp at hx)
 | v :: v' :: vs, u :: u' :: us, hu => exact .tuple _ _ hu.1 hu.2
 | [], _ :: _, hu => simp [URels] at hu
 | _ :: _, [], hu => simp [URels] at hu
 | [_], _ :: _ :: _, hu => simp [URels] at hu
 | _ :: _ :: _, [_], hu => simp [URels] at hu
theorem SRel.enter {fn : Func} {args : List AV} {vs : List Value} (hR : Rel m I w C h) (hu : URels m I w args vs) :
  SRel C fn.ntmps m I w lm0 ⟨enterE args, emptyLoc, h⟩ ((⟨vs⟩ : Array Value) ++ Array.replicate (fn.ntmps - (⟨vs⟩ : Array Value).size) undef) := by
 refine ⟨hR, ⟨fun k cs hcs => by simp [emptyLoc] at hcs, fun k k' b hk => by simp [emptyLoc] at hk⟩, by simp; omega, fun t x hx => ?_⟩
 simp only [enterE] at hx
 have ht : t < vs.length := by have := (List.getElem?_eq_some_iff.1 hx).1; have := hu.1; omega
 have h2 := hu.2 t x vs[t] hx (by simp [ht])
 right
 have h3 : ((⟨vs⟩ : Array Value) ++ Array.replicate (fn.ntmps - (⟨vs⟩ : Array Value).size) undef).getD t undef = vs[t] := by
  simp [Array.getD_eq_getD_getElem?, Array.getElem?_append, ht]
 rw [h3]; exact h2
/-- The marks among the deferred calls are passed. -/
theorem leavesM {fn : Func} {R : Ending → World → Prop} {F : Fence} {lo : Nat} {rest : List Deferred} : ∀ (ds : List Deferred) (w : World), DfOK0 lo m w σ.h lm σ.loc ds → SRel C n m I w lm σ tmps →
  (∀ w', SRel C n m I w' lm σ tmps → WLe w w' → (∀ b, (∀ d ∈ ds, d.target ≠ .collected b) → w'.heap[b]? = w.heap[b]?) → LeavesInM F 0 C.P fn tmps R rest .returning w') →
  LeavesInM F 0 C.P fn tmps R (ds ++ rest) .returning w
 | [], w, _, hS, hQ => hQ w hS (WLe.refl w) (fun _ _ => rfl)
 | d :: ds, w, hd, hS, hQ => by
  obtain ⟨b, hlo, ht, hb, hnt, hnl⟩ := hd.all d (by simp)
  have hbs : bsize w b = none := by simp [bsize, hb]
  have hw := WLe.setBlk (o := .deferred none) hbs
  have hf : Free m I σ.h lm σ.loc b := ⟨fun h1 => (by have := hS.rel.imm b h1; rw [hbs] at this; cases this), hnt, hnl⟩
  have hS1 := hS.wild hf hw (fun x hx _ => setBlk_other hx)
  refine ⟨by simp, .inl ⟨b, setBlk w b (.deferred none), ht, ?_, leavesM ds _ ⟨Nat.le_trans hd.le hw.size, fun d' hd' => ?_, (List.pairwise_cons.1 hd.nd).2⟩ hS1 fun w' hS' hw' hk => ?_⟩⟩
  ·have h1 : (getObj b).run C.P w = .ok (.deferred (some [])) w := by simp [getObj, Sem.run, hb]
   simp [Instr.takeDeferred, h1, run_setObj hb (fun _ _ _ h => by cases h)]
  ·obtain ⟨b', hlo', ht', hb', hnt', hnl'⟩ := hd.all d' (by simp [hd'])
   have hne : b' ≠ b := by
    rintro rfl
    exact (List.pairwise_cons.1 hd.nd).1 d' hd' (ht.trans ht'.symm)
   exact ⟨b', hlo', ht', by rw [setBlk_other hne]; exact hb', hnt', hnl'⟩
  ·exact hQ w' hS' (hw.trans hw') (fun x hx => by
    rw [hk x (fun d' hd' => hx d' (by simp [hd'])), setBlk_other (fun h => hx d (by simp) (by rw [ht, h]))])
/-- Marks lie behind the world in which the activation began. -/
theorem DfOK0.old {lo : Nat} {L : Loc} {ds : List Deferred} (hd : DfOK0 lo m w h lm L ds) {b : Nat} (hb : b < lo) : ∀ d ∈ ds, d.target ≠ .collected b := by
 intro d hm heq
 obtain ⟨b', h1, h2, _⟩ := hd.all d hm
 rw [h2] at heq
 injection heq with heq
 omega
theorem leaves_end {fn : Func} {R : Ending → World → Prop} (h : ∃ v, (results fn tmps).run C.P w = .ok v w ∧ R (.returned v) w) : LeavesInM Fence.wide 0 C.P fn tmps R [] .returning w := h
theorem snd_call (hC : COk C) {f : FuncId} {fn : Func} {body : Code} {args : List AV} {e : Ex} {vs : List AV} (hf : C.P.funcs[f]? = some fn) (hb : fn.body = some body)
  (h1 : SndCode C ⟨f, fn.ntmps, C.A f, none⟩ body ⟨enterE args, emptyLoc, h⟩ e σ) (he : e = .normal ∨ e = .ret) (hr : allSome (fn.results.toList.map (resA C σ)) = some vs) :
  SndCall C f args h (retA vs) σ.h := by
 refine ⟨⟨fn, body, hf, hb⟩, fun m I w us R hR hu hQ => callsIn_of_wp_marks hf hb trivial ?_⟩
 refine h1 none ⟨w.heap.size, []⟩ m I w lm0 _ _ trivial (SRel.enter hR hu) DfOK.nil fun m1 I1 w1 lm1 a1 hS1 st1 hd1 => ?_
 have key : LeavesInM Fence.wide 0 C.P fn a1.tmps R a1.defers .returning w1 := by
  obtain ⟨ms, hms, hd1⟩ := hd1
  rw [hms]
  refine leavesM ms w1 hd1 hS1 fun w2 hS2 hw2 hk => leaves_end ?_
  obtain ⟨r, hrun, hur⟩ := results_rel hC hS2 hr
  refine ⟨r, hrun, hQ m1 I1 w2 r hS2.rel hur ⟨st1.mle, st1.sub, st1.wle.trans hw2, fun b hb ht hl => ?_, st1.newI, st1.newT, fun b hb => absurd hb (notLoc_empty _ b)⟩⟩
  rw [hk b (hd1.old hb)]; exact st1.frame b hb ht (notLoc_empty _ b)
 rcases he with rfl | rfl
 ·exact key
 ·exact key
theorem eval_put {a : Act} {q : Nat} {v : Value} (h : q < a.tmps.size) : (a.put (some q) v).eval (.tmp q) = v := by
 simp [Act.put, Act.eval, Array.getD_eq_getD_getElem?, h]
theorem put_size (a : Act) (q : Nat) (v : Value) : (a.put (some q) v).tmps.size = a.tmps.size := by simp [Act.put]
/-- Where nobody panics, such a closure does nothing. -/
theorem guard_quiet (hC : COk C) (hE : EOk C) {k : Nat} {f : FuncId} {fn : Func} {c0 c1 : Code} {d : Nat} {g : FuncId} {cap : Array Operand} (D : Deferring C f fn c0 c1 d g cap) (caps : Array Value)
  {R : Ending → FrameMode → World → Prop} (hR : ∀ v, R (.returned v) .returning w) : CallsDIn Fence.wide k C.P g caps .returning w R := by
 obtain ⟨gn, r, q, p, b, i0, i1, t1, p1, e1, t2, p2, e2, t3, p3, e3, t4, p4, e4, ats, T, U, ti, cc, hgf, hgr, hr, hq, hp, hb, hT, hTk, hgb⟩ := D.guard
 refine callsDIn_of_wpSIn hgf hgb trivial fun c₀ cs hm => ?_
 have hrec : recoverD (c₀ :: cs) = none := by simp [recoverD, hm]
 refine wpSIn_seq (wpSIn_region ?_)
 show wpOpsSIn _ _ _ _ _ [0, 1] _ _ _
 generalize ha0 : ({ tmps := caps ++ Array.replicate (gn.ntmps - caps.size) undef, defers := [] } : Act) = a0
 have hsz : gn.ntmps ≤ a0.tmps.size := by rw [← ha0]; simp; omega
 have hd0 : a0.defers = [] := by rw [← ha0]
 simp only [wpOpsSIn, List.getElem?_toArray, List.getElem?_cons_zero, List.getElem?_cons_succ, Region.wanted, if_true, execOp, resolve, invoke, builtin, Sem.run_bind, Sem.run_pure, Result.andThen_ok, hrec]
 refine ⟨fun _ _ => trivial, fun _ _ => trivial, ?_⟩
 have he1 : (a0.put (some r) .nilIface).eval (.tmp r) = .nilIface := eval_put (by omega)
 simp only [he1]
 generalize ha1 : ((a0.put (some r) .nilIface).put (some q) .nilIface) = a1
 have hsz1 : gn.ntmps ≤ a1.tmps.size := by rw [← ha1, put_size, put_size]; exact hsz
 have hd1 : a1.defers = [] := by rw [← ha1]; exact hd0
 have he2 : a1.eval (.tmp q) = .nilIface := by rw [← ha1]; exact eval_put (by rw [put_size]; omega)
 refine wpSIn_seq (wpSIn_region ?_)
 show wpOpsSIn _ _ _ _ _ [0, 1] _ _ _
 have he3 : (a1.put (some p) .nilIface).eval (.tmp p) = .nilIface := eval_put (by omega)
 have hbin : binA C .neq T (.tmp p) (.const .nilIface) (.d .niliface) (.d .niliface) = some (vbool false) := by
  simp [binA, isNilConst, hT, nilOf, hTk]
 obtain ⟨rv, hrun, hu⟩ := binA_rel (w := w) (m := fun _ _ => none) (I := fun _ => False) (lm := lm0) (a := a1.put (some p) .nilIface) hC hE (p := .d .niliface) (q := .d .niliface) (.inr (by rw [he3]; exact .d _ _ .niliface)) (.inr (.d _ _ .niliface)) hbin
 have hrv : rv = .bool false := by
  have := hu.toD
  cases rv <;> cases this
  rfl
 subst hrv
 simp only [wpOpsSIn, List.getElem?_toArray, List.getElem?_cons_zero, List.getElem?_cons_succ, Region.wanted, if_true, execOp, Sem.run_bind, Sem.run_pure, Result.andThen_ok, he2, hrun]
 refine ⟨fun _ _ => trivial, fun _ _ => trivial, ?_⟩
 have he4 : ((a1.put (some p) .nilIface).put (some b) (.bool false)).eval (.tmp b) = .bool false := eval_put (by rw [put_size]; omega)
 refine wpSIn_cond (t := false) he4 ?_
 refine wpSIn_of_wpIn rfl (wpIn_skip ?_)
 exact ⟨hd1, .returning, by rw [← hm], .tuple #[], by simp [results, hgr], hR _⟩
theorem snd_callD (hC : COk C) (hE : EOk C) (hN : PlainNames C) {f : FuncId} {fn : Func} {c0 c1 : Code} {d : Nat} {g : FuncId} {cap : Array Operand} {args cs : List AV} {σ₀ : St} {e : Ex} {vs : List AV} (D : Deferring C f fn c0 c1 d g cap)
  (h0 : SndCode C ⟨f, fn.ntmps, C.A f, none⟩ c0 ⟨enterE args, emptyLoc, h⟩ .normal σ₀) (hcap : evalArgs (rho C σ₀.env) cap.toList = some cs)
  (h1 : SndCode C ⟨f, fn.ntmps, C.A f, none⟩ c1 { σ₀ with env := upd σ₀.env d (.clo g [] cs) } e σ) (he : e = .normal ∨ e = .ret)
  (hr : allSome (fn.results.toList.map (resA C σ)) = some vs) : SndCall C f args h (retA vs) σ.h := by
 obtain ⟨rid, t1, p1, e1, t2, p2, e2, ats, hbody⟩ := D.body
 refine ⟨⟨fn, _, D.hf, hbody⟩, fun m I w us R hR hu hQ => callsIn_of_wp_marks D.hf hbody trivial ?_⟩
 refine wpIn_seq (h0 none ⟨w.heap.size, []⟩ m I w lm0 _ _ trivial (SRel.enter hR hu) DfOK.nil fun m1 I1 w1 lm1 a1 hS1 st1 hd1 => ?_)
 refine wpIn_seq (wpIn_region ?_)
 show wpOpsIn _ _ _ _ _ [0, 1] _ _
 have hcs := evalArgs_rel hS1 hcap
 generalize hcv : (Value.func (.func g) #[] ⟨cap.toList.map a1.eval⟩) = cv
 have hmk : (execOp a1.eval ⟨some d, .makeFunc (.func g) #[] cap, t1, p1, e1, none⟩).run C.P w1 = .ok (.value cv) w1 := by
  rw [← hcv]
  simp [execOp, Instr.makeFunc, array_map_list']
 have hlt : d < a1.tmps.size := Nat.lt_of_lt_of_le D.lt hS1.size
 have hev : (a1.put (some d) cv).eval (.tmp d) = cv := eval_put hlt
 have hS2 := hS1.put (d := d) D.lt (x := .clo g [] cs) (v := cv) (.inr (by rw [← hcv]; exact .clo g [] cs [] _ rfl hcs.1 (fun i x y hx => by simp at hx) hcs.2))
 simp only [wpOpsIn, List.getElem?_toArray, List.getElem?_cons_zero, List.getElem?_cons_succ, Region.wanted, if_true, Oper.wpIn]
 refine ⟨fun _ _ => trivial, ?_⟩
 rw [show Fence.wide.round = none from rfl, Oper.semAt_none, hmk]
 simp only [Oper.uponIn]
 refine ⟨fun _ _ => trivial, ?_⟩
 rw [Oper.semAt_none]
 have hdf : (execOp (a1.put (some d) cv).eval ⟨none, .defer ⟨.value (.tmp d), #[], ats⟩, t2, p2, e2, none⟩).run C.P w1 = .ok (.defer { target := .fn (.func g) ⟨cap.toList.map a1.eval⟩, args := #[] }) w1 := by
  simp only [execOp, resolve, hev, Sem.run_bind, List.map_toArray, List.map_nil]
  rw [← hcv]
  simp [Deferred.ofValue]
 rw [hdf]
 simp only [Oper.uponIn]
 obtain ⟨ms1, hms1, hd1⟩ := hd1
 refine h1 none ⟨w1.heap.size, { target := .fn (.func g) ⟨cap.toList.map a1.eval⟩, args := #[] } :: a1.defers⟩ m1 I1 w1 lm1 _ _ trivial hS2 ⟨[], rfl, DfOK0.nil⟩ fun m2 I2 w2 lm2 a4 hS3 st2 hd2 => ?_
 have key : LeavesInM Fence.wide 0 C.P fn a4.tmps R a4.defers .returning w2 := by
  obtain ⟨ms, hms, hd2⟩ := hd2
  rw [hms]
  refine leavesM ms w2 hd2 hS3 fun w3 hS4 hw3 hk3 => ?_
  obtain ⟨gn, _, _, _, _, _, _, _, _, _, _, _, _, _, _, _, _, _, _, _, _, _, _, _, hgf, _, _, _, _, _, _, _, hgb⟩ := D.guard
  refine ⟨by simp, .inr ⟨fun h => by simp [Fence.wide] at h, .func g, _, g, ⟨cap.toList.map a1.eval⟩, rfl, ?_, fun _ _ => trivial, guard_quiet hC hE D _ fun v => ?_⟩⟩
  ·have := run_callFunc hgf (hN _ _ hgf) hgb ⟨cap.toList.map a1.eval⟩ w3
   simpa [invoke] using this
  ·show LeavesInM _ _ _ _ _ _ a1.defers (settle .returning) w3
   rw [show settle .returning = FrameMode.returning from rfl, hms1]
   have hd3 := hd1.step st2
   have hd4 : DfOK0 w.heap.size m2 w3 σ.h lm2 σ.loc ms1 := by
    refine ⟨Nat.le_trans hd3.le hw3.size, fun x hx => ?_, hd3.nd⟩
    obtain ⟨b, hb1, hb2, hb3, hb4, hb5⟩ := hd3.all x hx
    obtain ⟨b', _, hb2', hb3', _⟩ := hd1.all x hx
    rw [hb2] at hb2'
    injection hb2' with hb2'
    subst hb2'
    exact ⟨b, hb1, hb2, by rw [hk3 b (hd2.old (lt_of_some hb3'))]; exact hb3, hb4, hb5⟩
   refine leavesM ms1 w3 hd4 hS4 fun w4 hS5 hw4 hk4 => leaves_end ?_
   obtain ⟨r, hrun, hur⟩ := results_rel hC hS5 hr
   have st12 := st1.trans st2
   refine ⟨r, hrun, hQ m2 I2 w4 r hS5.rel hur ⟨st12.mle, st12.sub, (st12.wle.trans hw3).trans hw4, fun b hb ht hl => ?_, st12.newI, st12.newT, fun b hb => absurd hb (notLoc_empty _ b)⟩⟩
   rw [hk4 b (hd4.old hb), hk3 b (hd2.old (Nat.lt_of_lt_of_le hb st1.wle.size))]
   exact st12.frame b hb ht (notLoc_empty _ b)
 rcases he with rfl | rfl
 ·exact key
 ·exact key
end
end Go.Dv
