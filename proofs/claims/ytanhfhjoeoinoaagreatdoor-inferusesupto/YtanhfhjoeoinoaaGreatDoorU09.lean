/- A part of the proof of InferUses, second form: for every input of bulk at most 1048576 the call returns true and the arguments read as they did. Its condition: that bulk. -/
import Derived.Test.YtanhfhjoeoinoaaGreatDoorU08
/- Contracts over the machine: states whose slots are rows, steps one by one. -/
namespace Go.Dv
def lk {α : Type} : List (Nat × α) → Nat → Option α
 | [], _ => none
 | (k, v) :: r, t => cond (Nat.beq k t) (some v) (lk r t)
theorem lk_cons {α : Type} (k : Nat) (v : α) (r : List (Nat × α)) : lk ((k, v) :: r) = upd (lk r) k v := by
 funext t
 simp only [lk, upd]
 cases h : Nat.beq k t with
 | true => have := Nat.eq_of_beq_eq_true h; subst this; simp
 | false => rw [if_neg (by rintro rfl; simp at h)]; rfl
structure SSt where
 env : List (Nat × AV)
 loc : List (Nat × List AV)
 h : Hp
def SSt.to (σ : SSt) : St := ⟨lk σ.env, lk σ.loc, σ.h⟩
def noL (d : Nat) : List (Nat × AV) → Bool
 | [] => true
 | (_, .lptr k _) :: r => cond (Nat.beq k d) false (noL d r)
 | _ :: r => noL d r
theorem noL_spec {d : Nat} : ∀ {l : List (Nat × AV)}, noL d l = true → ∀ t off, lk l t ≠ some (.lptr d off)
 | [], _, t, off, h => by simp [lk] at h
 | (k, v) :: r, h, t, off, hk => by
  simp only [lk] at hk
  have hr : noL d r = true := by
   cases v <;> simp only [noL] at h <;> try exact h
   rename_i k' o
   cases hb : Nat.beq k' d with
   | true => rw [hb] at h; cases h
   | false => rw [hb] at h; exact h
  cases hb : Nat.beq k t with
  | true =>
   rw [hb] at hk
   simp only [cond_true, Option.some.injEq] at hk
   subst hk
   simp [noL] at h
  | false => rw [hb] at hk; exact noL_spec hr t off hk
def putS (dst : Option Nat) (v : AV) (env : List (Nat × AV)) : List (Nat × AV) :=
 match dst with
 | none => env
 | some d => (d, v) :: env
def okD (n : Nat) (dst : Option Nat) : Bool :=
 match dst with
 | none => true
 | some d => Nat.blt d n
theorem putD_S {n : Nat} {dst : Option Nat} {v : AV} {env : List (Nat × AV)} (h : okD n dst = true) : putD n (lk env) dst v = some (lk (putS dst v env)) := by
 cases dst with
 | none => rfl
 | some d => simp only [putD, putS, lk_cons, if_pos (lt_of_blt h)]
def isFrz (A : FAnn) (dst : Option Nat) : Bool :=
 match dst with
 | none => false
 | some d => memB d A.frz
/-- What an effect does to a state. -/
def applyS (A : FAnn) (n : Nat) (dst : Option Nat) (σ : SSt) (eff : Eff) : Option SSt :=
 cond (okD n dst) (match eff with
  | .val v => cond (isFrz A dst) (match frzV 400 σ.h v with
    | some (x, h') => some { σ with env := putS dst (.d x) σ.env, h := h' }
    | none => none) (some { σ with env := putS dst v σ.env })
  | .newL cells => match dst with
   | some d => cond (noL d σ.env) (some { σ with env := (d, .lptr d 0) :: σ.env, loc := (d, cells) :: σ.loc }) none
   | none => none
  | .setL key cells => match dst with
   | none => some { σ with loc := (key, cells) :: σ.loc }
   | some _ => none
  | .newCells cs len sz e => some { σ with env := putS dst (.msl σ.h.next 0 len 0 sz) σ.env, h := { σ.h.alloc (.cells cs 0) with el := upd σ.h.el σ.h.next e } }
  | .grow id cs ver v e => cond (isFrz A dst) none (some { σ with env := putS dst v σ.env, h := { σ.h.set id (.cells cs ver) with el := σ.h.keepEl id e } })
  | .newVar cs t => some { σ with env := putS dst (.ptr σ.h.next 0 0) σ.env, h := { σ.h.alloc (.cells cs 0) with ty := upd σ.h.ty σ.h.next (t, cs.length) } }
  | .newMap => some { σ with env := putS dst (.map σ.h.next) σ.env, h := σ.h.alloc (.map []) }
  | .setH id o none => match dst with
   | none => some { σ with h := σ.h.set id o }
   | some _ => none
  | .setH id o (some v) => cond (isFrz A dst) none (some { σ with env := putS dst v σ.env, h := σ.h.set id o })
  | _ => none) none
theorem isFrz_spec {A : FAnn} {dst : Option Nat} (h : isFrz A dst = false) : ∀ d, dst = some d → d ∉ A.frz := by
 intro d hd hm
 subst hd
 simp only [isFrz] at h
 rw [memB_spec.2 hm] at h; cases h
theorem putV_S {A : FAnn} {n : Nat} {dst : Option Nat} {σ : SSt} {v : AV} (ho : okD n dst = true) (hf : isFrz A dst = false) : putV A n dst σ.to v = some ({ σ with env := putS dst v σ.env } : SSt).to := by
 rw [putV_noFrz (isFrz_spec hf)]
 show (putD n (lk σ.env) dst v).map _ = _
 rw [putD_S ho]
 rfl
theorem applyS_spec {A : FAnn} {n : Nat} {dst : Option Nat} {σ σ' : SSt} {eff : Eff} (h : applyS A n dst σ eff = some σ') : applyEff A n dst σ.to eff = some σ'.to := by
 unfold applyS at h
 cases ho : okD n dst with
 | false => rw [ho] at h; cases h
 | true =>
  rw [ho] at h
  simp only [cond_true] at h
  split at h
  ·cases hf : isFrz A dst with
   | false => rw [hf] at h; cases h; exact putV_S ho hf
   | true =>
    rw [hf] at h
    simp only [cond_true] at h
    split at h
    ·rename_i x h' hz
     cases h
     cases dst with
     | none => cases hf
     | some d =>
      simp only [isFrz] at hf
      simp only [applyEff, putV, if_pos (memB_spec.1 hf), if_pos (lt_of_blt ho), SSt.to, putS, lk_cons, hz]
    ·cases h
  ·split at h
   ·rename_i cells _ d
    cases hn : noL d σ.env with
    | false => rw [hn] at h; cases h
    | true =>
     rw [hn] at h; cases h
     have hk : noKey d (lk σ.env) = lk σ.env := noKey_self (noL_spec hn)
     simp only [applyEff, if_pos (lt_of_blt ho), SSt.to, hk, lk_cons]
   ·cases h
  ·split at h
   ·cases h; simp only [applyEff, SSt.to, dropD, lk_cons]
   ·cases h
  ·cases h
   simp only [applyEff]
   show (putD n (lk σ.env) dst _).map _ = _
   rw [putD_S ho]; rfl
  ·cases hf : isFrz A dst with
   | true => rw [hf] at h; cases h
   | false =>
    rw [hf] at h; cases h
    rename_i id cs ver v e
    exact putV_S (σ := { σ with h := { σ.h.set id (.cells cs ver) with el := σ.h.keepEl id e } }) ho hf
  ·cases h
   simp only [applyEff]
   show (putD n (lk σ.env) dst _).map _ = _
   rw [putD_S ho]; rfl
  ·cases h
   simp only [applyEff]
   show (putD n (lk σ.env) dst _).map _ = _
   rw [putD_S ho]; rfl
  ·split at h
   ·cases h; simp only [applyEff, SSt.to, dropD]
   ·cases h
  ·cases hf : isFrz A dst with
   | true => rw [hf] at h; cases h
   | false =>
    rw [hf] at h; cases h
    rename_i id o v
    exact putV_S (σ := { σ with h := σ.h.set id o }) ho hf
  ·cases h
def LeE (l : List (Nat × AV)) (l' : List (Nat × AV)) : Prop :=
 match l with
 | [] => True
 | (k, v) :: r => lk l' k = some v ∧ LeE r l'
theorem LeE_spec : ∀ {l l' : List (Nat × AV)}, LeE l l' → EnvLe (lk l) (lk l')
 | [], _, _, t, x, h => by simp [lk] at h
 | (k, v) :: r, l', hl, t, x, h => by
  simp only [lk] at h
  cases hb : Nat.beq k t with
  | true =>
   rw [hb] at h
   have := Nat.eq_of_beq_eq_true hb
   subst this
   cases h
   exact hl.1
  | false => rw [hb] at h; exact LeE_spec hl.2 t x h
def LeL (l : List (Nat × List AV)) (l' : List (Nat × List AV)) : Prop :=
 match l with
 | [] => True
 | (k, v) :: r => lk l' k = some v ∧ LeL r l'
theorem LeL_spec : ∀ {l l' : List (Nat × List AV)}, LeL l l' → LocLe (lk l) (lk l')
 | [], _, _, t, x, h => by simp [lk] at h
 | (k, v) :: r, l', hl, t, x, h => by
  simp only [lk] at h
  cases hb : Nat.beq k t with
  | true =>
   rw [hb] at h
   have := Nat.eq_of_beq_eq_true hb
   subst this
   cases h
   exact hl.1
  | false => rw [hb] at h; exact LeL_spec hl.2 t x h
/-- A state that knows less. -/
structure SLe (σ σ' : SSt) : Prop where
 env : LeE σ.env σ'.env
 loc : LeL σ.loc σ'.loc
 h : σ.h = σ'.h
section
variable (C : Ctx) (Or : FuncId → List AV → Hp → AV → Hp → Prop) (Xo : FuncId → List AV → AV → Prop)
/-- A call returns, with this. -/
def Ret (f : FuncId) (args : List AV) (h : Hp) (R : AV → Hp → Prop) : Prop := ∃ v h', Big C Or Xo (.call f args h) (.ret v h') ∧ R v h'
def wpC (X : Fr) (c : Code) (σ : SSt) (Q : Ex → SSt → Prop) : Prop := ∃ e σ', Big C Or Xo (.code X c σ.to) (.code e σ'.to) ∧ Q e σ'
def wpR (X : Fr) (c : Code) (σ : SSt) (Q : Ex → SSt → Prop) : Prop := ∃ e σ', Big C Or Xo (.rounds X c σ.to) (.code e σ'.to) ∧ Q e σ'
def wpL (X : Fr) (ops : Array Oper) (l : List Oper) (k : Nat) (σ : SSt) (Q : SSt → Prop) : Prop :=
 (∀ (j : Nat) o, l[j]? = some o → ops[k + j]? = some o) → ∃ σ', Big C Or Xo (.ops X ops (List.range' k l.length) σ.to) (.code .normal σ'.to) ∧ Q σ'
end
section
variable {C : Ctx} {Or : FuncId → List AV → Hp → AV → Hp → Prop} {Xo : FuncId → List AV → AV → Prop} {X : Fr} {σ σ' : SSt} {Q Q' : Ex → SSt → Prop} {K : SSt → Prop} {ops : Array Oper} {l : List Oper} {k : Nat} {o : Oper}
theorem Ret.mono {f : FuncId} {args : List AV} {h : Hp} {R R' : AV → Hp → Prop} (h1 : Ret C Or Xo f args h R) (h2 : ∀ v h', R v h' → R' v h') : Ret C Or Xo f args h R' :=
 let ⟨v, h', hb, hr⟩ := h1
 ⟨v, h', hb, h2 v h' hr⟩
theorem wpC_mono {c : Code} (h : wpC C Or Xo X c σ Q) (hq : ∀ e σ', Q e σ' → Q' e σ') : wpC C Or Xo X c σ Q' :=
 let ⟨e, σ', hb, h1⟩ := h
 ⟨e, σ', hb, hq _ _ h1⟩
theorem s_skip (h : Q .normal σ) : wpC C Or Xo X .skip σ Q := ⟨_, _, .skip, h⟩
theorem s_label {l : Nat} (h : Q .normal σ) : wpC C Or Xo X (.label l) σ Q := ⟨_, _, .label, h⟩
theorem s_exit {id : Nat} (h : Q (.exit id) σ) : wpC C Or Xo X (.exit id) σ Q := ⟨_, _, .exit, h⟩
theorem s_ret (h : Q .ret σ) : wpC C Or Xo X .ret σ Q := ⟨_, _, .ret, h⟩
/-- Behind a first part. -/
def andThen (K : SSt → Prop) (Q : Ex → SSt → Prop) : Ex → SSt → Prop
 | .normal, σ => K σ
 | e, σ => Q e σ
theorem s_seq {a b : Code} (h : wpC C Or Xo X a σ (andThen (fun σ' => wpC C Or Xo X b σ' Q) Q)) : wpC C Or Xo X (.seq a b) σ Q := by
 obtain ⟨e, σ₁, h1, h2⟩ := h
 cases e with
 | normal => obtain ⟨e, σ₂, h3, h4⟩ := h2; exact ⟨e, σ₂, .seq h1 h3, h4⟩
 | ret => exact ⟨_, _, .seqX h1 (by simp), h2⟩
 | exit id => exact ⟨_, _, .seqX h1 (by simp), h2⟩
theorem s_cond {c : Operand} {a b : Code} {t : Bool} (hc : rho C (lk σ.env) c = some (.d (.bool t))) (h : wpC C Or Xo X (if t then a else b) σ Q) : wpC C Or Xo X (.cond c a b) σ Q :=
 let ⟨e, σ', h1, h2⟩ := h
 ⟨e, σ', .cond hc h1, h2⟩
theorem s_cond_t {c : Operand} {a b : Code} (hc : rho C (lk σ.env) c = some (.d (.bool true))) (h : wpC C Or Xo X a σ Q) : wpC C Or Xo X (.cond c a b) σ Q := s_cond (t := true) hc h
theorem s_cond_f {c : Operand} {a b : Code} (hc : rho C (lk σ.env) c = some (.d (.bool false))) (h : wpC C Or Xo X b σ Q) : wpC C Or Xo X (.cond c a b) σ Q := s_cond (t := false) hc h
/-- A test that is not decided. -/
theorem s_if {c : Operand} {a b : Code} {t : Bool} (hc : rho C (lk σ.env) c = some (.d (.bool t))) (h1 : t = true → wpC C Or Xo X a σ Q) (h2 : t = false → wpC C Or Xo X b σ Q) : wpC C Or Xo X (.cond c a b) σ Q := by
 cases t with
 | true => exact s_cond_t hc (h1 rfl)
 | false => exact s_cond_f hc (h2 rfl)
theorem s_block {id : Nat} {c : Code} (h : wpC C Or Xo X c σ (fun e σ' => Q (e.out id) σ')) : wpC C Or Xo X (.block id c) σ Q :=
 let ⟨e, σ', h1, h2⟩ := h
 ⟨_, σ', .block h1, h2⟩
theorem s_scope {c : Code} (h : wpC C Or Xo X c σ Q) : wpC C Or Xo X (.scope c) σ Q :=
 let ⟨e, σ', h1, h2⟩ := h
 ⟨_, σ', .scope h1, h2⟩
theorem s_loop {c : Code} (h : wpR C Or Xo X c σ Q) : wpC C Or Xo X (.loop c) σ Q :=
 let ⟨e, σ', h1, h2⟩ := h
 ⟨_, σ', .loop h1, h2⟩
theorem s_less {c : Code} (hle : SLe σ' σ) (h : wpC C Or Xo X c σ' Q) : wpC C Or Xo X c σ Q := by
 obtain ⟨e, σ₁, h1, h2⟩ := h
 have h1' : Big C Or Xo (.code X c ⟨lk σ'.env, lk σ'.loc, σ.h⟩) (.code e σ₁.to) := by rw [← hle.h]; exact h1
 exact ⟨e, σ₁, .forget (σ := σ.to) (LeE_spec hle.env) (LeL_spec hle.loc) h1', h2⟩
theorem wpR_less {c : Code} (hle : SLe σ' σ) (h : wpR C Or Xo X c σ' Q) : wpR C Or Xo X c σ Q := by
 obtain ⟨e, σ₁, h1, h2⟩ := h
 have h1' : Big C Or Xo (.rounds X c ⟨lk σ'.env, lk σ'.loc, σ.h⟩) (.code e σ₁.to) := by rw [← hle.h]; exact h1
 exact ⟨e, σ₁, .forgetR (σ := σ.to) (LeE_spec hle.env) (LeL_spec hle.loc) h1', h2⟩
/-- One round, and the others. -/
theorem wpR_round {c : Code} (h : wpC C Or Xo X c σ (andThen (fun σ' => wpR C Or Xo X c σ' Q) Q)) : wpR C Or Xo X c σ Q := by
 obtain ⟨e, σ₁, h1, h2⟩ := h
 cases e with
 | normal => obtain ⟨e, σ₂, h3, h4⟩ := h2; exact ⟨e, σ₂, .rounds h1 h3, h4⟩
 | ret => exact ⟨_, _, .roundsX h1 (by simp), h2⟩
 | exit id => exact ⟨_, _, .roundsX h1 (by simp), h2⟩
/-- A loop: a state of each index, a measure that each round lowers. -/
theorem s_rounds {ι : Type} {c : Code} (S : ι → SSt) (P : ι → Prop) (μ : ι → Nat)
  (step : ∀ i, P i → wpC C Or Xo X c (S i) (andThen (fun σ' => ∃ j, P j ∧ μ j < μ i ∧ SLe (S j) σ') Q)) (i : ι) (hi : P i) (hle : SLe (S i) σ) : wpC C Or Xo X (.loop c) σ Q := by
 have key : ∀ n i, μ i < n → P i → wpR C Or Xo X c (S i) Q := by
  intro n
  induction n with
  | zero => intro i h; exact absurd h (Nat.not_lt_zero _)
  | succ n ih =>
   intro i hn hP
   refine wpR_round (wpC_mono (step i hP) fun e σ' h => ?_)
   cases e with
   | normal =>
    obtain ⟨j, hj, hlt, hle⟩ := h
    exact wpR_less hle (ih j (by omega) hj)
   | ret => exact h
   | exit id => exact h
 exact s_loop (wpR_less hle (key _ i (Nat.lt_succ_self _) hi))
theorem s_region {id : Nat} (h : wpL C Or Xo X ops ops.toList 0 σ (fun σ' => Q .normal σ')) : wpC C Or Xo X (.region id ops false) σ Q := by
 obtain ⟨σ', h1, h2⟩ := h (fun j o hj => by simpa using hj)
 rw [← List.range_eq_range', show ops.toList.length = ops.size from rfl] at h1
 exact ⟨_, σ', .region (σ₁ := σ'.to) h1 (fun _ _ h => h), h2⟩
theorem s_nil (h : K σ) : wpL C Or Xo X ops [] k σ K := fun _ => ⟨σ, .opsNil, h⟩
theorem s_one (h1 : ops[k]? = some o → One C Or Xo X ops k σ.to σ'.to) (h : wpL C Or Xo X ops l (k + 1) σ' K) : wpL C Or Xo X ops (o :: l) k σ K := by
 intro hl
 obtain ⟨σ₁, h2, h3⟩ := h (fun j o' hj => by
  have := hl (j + 1) o' (by simpa using hj)
  rwa [show k + 1 + j = k + (j + 1) by omega])
 refine ⟨σ₁, ?_, h3⟩
 simp only [List.length_cons, List.range'_succ]
 exact (h1 (hl 0 o rfl)).big h2
theorem s_op {eff : Eff} (hw : wantedA ops (lk σ.env) o = some true) (he : opA C X.A (rho C (lk σ.env)) (lk σ.loc) σ.h.get o = some eff) (ha : applyS X.A X.n o.dst σ eff = some σ')
  (h : wpL C Or Xo X ops l (k + 1) σ' K) : wpL C Or Xo X ops (o :: l) k σ K :=
 s_one (fun ho => .op (σ := σ.to) ho hw he (applyS_spec ha)) h
theorem s_off (hw : wantedA ops (lk σ.env) o = some false) (hd : okD X.n o.dst = true)
  (h : wpL C Or Xo X ops l (k + 1) { σ with env := putS o.dst (.tuple []) σ.env } K) : wpL C Or Xo X ops (o :: l) k σ K :=
 s_one (σ' := { σ with env := putS o.dst (.tuple []) σ.env }) (fun ho => .off (σ := σ.to) ho hw (putD_S hd)) h
theorem s_call {f : FuncId} {args : List AV} {R : AV → Hp → Prop} (hw : wantedA ops (lk σ.env) o = some true) (hc : callOf C (lk σ.env) o = some (.call f args)) (hd : okD X.n o.dst = true) (hf : isFrz X.A o.dst = false)
  (hr : Ret C Or Xo f args σ.h R) (h : ∀ v h', R v h' → wpL C Or Xo X ops l (k + 1) { σ with env := putS o.dst v σ.env, h := h' } K) : wpL C Or Xo X ops (o :: l) k σ K := by
 obtain ⟨v, h', hb, hR⟩ := hr
 exact s_one (σ' := { σ with env := putS o.dst v σ.env, h := h' }) (fun ho => .call (σ := σ.to) ho hw hc hb (putV_S (σ := { σ with h := h' }) hd hf)) (h v h' hR)
/-- A call whose value is deep data from now on. -/
theorem s_callF {f : FuncId} {args : List AV} {R : AV → Hp → Prop} {d : Nat} (hw : wantedA ops (lk σ.env) o = some true) (hc : callOf C (lk σ.env) o = some (.call f args)) (hd : o.dst = some d) (hlt : Nat.blt d X.n = true) (hf : memB d X.A.frz = true)
  (hr : Ret C Or Xo f args σ.h R) (h : ∀ v h', R v h' → ∃ x h'', frzV 400 h' v = some (x, h'') ∧ wpL C Or Xo X ops l (k + 1) { σ with env := (d, .d x) :: σ.env, h := h'' } K) : wpL C Or Xo X ops (o :: l) k σ K := by
 obtain ⟨v, h', hb, hR⟩ := hr
 obtain ⟨x, h'', hz, h3⟩ := h v h' hR
 refine s_one (σ' := { σ with env := (d, .d x) :: σ.env, h := h'' }) (fun ho => .call (σ := σ.to) ho hw hc hb ?_) h3
 simp only [putV, hd, if_pos (memB_spec.1 hf), hz, if_pos (lt_of_blt hlt), SSt.to, lk_cons]
/-- A function's contract from its body. -/
theorem ret_of_body {f : FuncId} {fn : Func} {body : Code} {args : List AV} {h : Hp} {R : AV → Hp → Prop} {env : List (Nat × AV)} (hf : C.P.funcs[f]? = some fn) (hb : fn.body = some body) (he : (args.zipIdx.map fun p => (p.2, p.1)) = env)
  (h1 : wpC C Or Xo ⟨f, fn.ntmps, C.A f, none⟩ body ⟨env, [], h⟩ (fun e σ' => (e = .normal ∨ e = .ret) ∧ ∃ vs, allSome (fn.results.toList.map (resA C σ'.to)) = some vs ∧ R (retA vs) σ'.h)) :
  Ret C Or Xo f args h R := by
 obtain ⟨e, σ', hb1, he1, vs, hvs, hR⟩ := h1
 have hent : (SSt.to ⟨env, [], h⟩) = ⟨enterE args, emptyLoc, h⟩ := by
  have key : ∀ (l : List AV) (k t : Nat), lk ((l.zipIdx k).map fun p => (p.2, p.1)) t = if k ≤ t then l[t - k]? else none := by
   intro l
   induction l with
   | nil => intro k t; simp [lk]
   | cons x l ih =>
    intro k t
    simp only [List.zipIdx_cons, List.map_cons, lk, ih]
    cases hb : Nat.beq k t with
    | true => have := Nat.eq_of_beq_eq_true hb; subst this; simp
    | false =>
     have hne : k ≠ t := by rintro rfl; simp at hb
     simp only [cond_false]
     by_cases h1 : k ≤ t
     ·rw [if_pos h1, if_pos (by omega)]
      obtain ⟨i, rfl⟩ : ∃ i, t = k + 1 + i := ⟨t - (k + 1), by omega⟩
      rw [show k + 1 + i - (k + 1) = i by omega, show k + 1 + i - k = i + 1 by omega]
      simp
     ·rw [if_neg h1, if_neg (by omega)]
  have henv : lk env = enterE args := by
   funext t
   rw [← he, key]
   simp [enterE]
  simp only [SSt.to, henv]
  rfl
 rw [hent] at hb1
 exact ⟨retA vs, σ'.h, .call hf hb hb1 he1 hvs, hR⟩
end
end Go.Dv
/- The steps of a contract, one lemma for each kind of effect. -/
namespace Go.Dv
section
variable {C : Ctx} {Or : FuncId → List AV → Hp → AV → Hp → Prop} {Xo : FuncId → List AV → AV → Prop} {X : Fr} {Q Q' : Ex → SSt → Prop} {K : SSt → Prop} {ops : Array Oper} {l : List Oper} {k : Nat} {o : Oper}
 {env : List (Nat × AV)} {loc : List (Nat × List AV)} {h : Hp} {d : Nat} {v : AV}
/-- May the slot be written, as it is? -/
def okS (X : Fr) (d : Nat) : Bool := Nat.blt d X.n && !(memB d X.A.frz)
theorem okS_spec {X : Fr} {d : Nat} (h : okS X d = true) : okD X.n (some d) = true ∧ isFrz X.A (some d) = false := by
 simp only [okS, Bool.and_eq_true, Bool.not_eq_true'] at h
 exact h
theorem s_val (hw : wantedA ops (lk env) o = some true) (he : opA C X.A (rho C (lk env)) (lk loc) h.get o = some (.val v)) (hd : o.dst = some d) (ho : okS X d = true)
  (hk : wpL C Or Xo X ops l (k + 1) ⟨(d, v) :: env, loc, h⟩ K) : wpL C Or Xo X ops (o :: l) k ⟨env, loc, h⟩ K := by
 obtain ⟨h1, h2⟩ := okS_spec ho
 refine s_op (σ := ⟨env, loc, h⟩) (σ' := ⟨(d, v) :: env, loc, h⟩) hw he ?_ hk
 simp only [applyS, hd, h1, h2, cond_true, cond_false, putS]
/-- A value that is deep data from now on. -/
theorem s_frz {x : DV} {h' : Hp} (hw : wantedA ops (lk env) o = some true) (he : opA C X.A (rho C (lk env)) (lk loc) h.get o = some (.val v)) (hd : o.dst = some d) (ho : Nat.blt d X.n = true) (hf : memB d X.A.frz = true)
  (hz : frzV 400 h v = some (x, h')) (hk : wpL C Or Xo X ops l (k + 1) ⟨(d, .d x) :: env, loc, h'⟩ K) : wpL C Or Xo X ops (o :: l) k ⟨env, loc, h⟩ K := by
 refine s_op (σ := ⟨env, loc, h⟩) (σ' := ⟨(d, .d x) :: env, loc, h'⟩) hw he ?_ hk
 simp only [applyS, hd, okD, ho, isFrz, hf, hz, cond_true, putS]
theorem s_newL {cells : List AV} (hw : wantedA ops (lk env) o = some true) (he : opA C X.A (rho C (lk env)) (lk loc) h.get o = some (.newL cells)) (hd : o.dst = some d) (ho : Nat.blt d X.n = true) (hn : noL d env = true)
  (hk : wpL C Or Xo X ops l (k + 1) ⟨(d, .lptr d 0) :: env, (d, cells) :: loc, h⟩ K) : wpL C Or Xo X ops (o :: l) k ⟨env, loc, h⟩ K := by
 refine s_op (σ := ⟨env, loc, h⟩) (σ' := ⟨(d, .lptr d 0) :: env, (d, cells) :: loc, h⟩) hw he ?_ hk
 simp only [applyS, hd, okD, ho, hn, cond_true]
theorem s_setL {key : Nat} {cells : List AV} (hw : wantedA ops (lk env) o = some true) (he : opA C X.A (rho C (lk env)) (lk loc) h.get o = some (.setL key cells)) (hd : o.dst = none)
  (hk : wpL C Or Xo X ops l (k + 1) ⟨env, (key, cells) :: loc, h⟩ K) : wpL C Or Xo X ops (o :: l) k ⟨env, loc, h⟩ K := by
 refine s_op (σ := ⟨env, loc, h⟩) (σ' := ⟨env, (key, cells) :: loc, h⟩) hw he ?_ hk
 simp only [applyS, hd, okD, cond_true]
theorem s_setH {id : Nat} {ob : Obj} (hw : wantedA ops (lk env) o = some true) (he : opA C X.A (rho C (lk env)) (lk loc) h.get o = some (.setH id ob none)) (hd : o.dst = none)
  (hk : wpL C Or Xo X ops l (k + 1) ⟨env, loc, h.set id ob⟩ K) : wpL C Or Xo X ops (o :: l) k ⟨env, loc, h⟩ K := by
 refine s_op (σ := ⟨env, loc, h⟩) (σ' := ⟨env, loc, h.set id ob⟩) hw he ?_ hk
 simp only [applyS, hd, okD, cond_true]
theorem s_setHv {id : Nat} {ob : Obj} (hw : wantedA ops (lk env) o = some true) (he : opA C X.A (rho C (lk env)) (lk loc) h.get o = some (.setH id ob (some v))) (hd : o.dst = some d) (ho : okS X d = true)
  (hk : wpL C Or Xo X ops l (k + 1) ⟨(d, v) :: env, loc, h.set id ob⟩ K) : wpL C Or Xo X ops (o :: l) k ⟨env, loc, h⟩ K := by
 obtain ⟨h1, h2⟩ := okS_spec ho
 refine s_op (σ := ⟨env, loc, h⟩) (σ' := ⟨(d, v) :: env, loc, h.set id ob⟩) hw he ?_ hk
 simp only [applyS, hd, h1, h2, cond_true, cond_false, putS]
def Hp.newC (h : Hp) (cs : List AV) (e : TypeId) : Hp := { h.alloc (.cells cs 0) with el := upd h.el h.next e }
def Hp.grown (h : Hp) (id : Nat) (cs : List AV) (ver : Nat) (e : TypeId) : Hp := { h.set id (.cells cs ver) with el := h.keepEl id e }
def Hp.newV (h : Hp) (cs : List AV) (t : TypeId) : Hp := { h.alloc (.cells cs 0) with ty := upd h.ty h.next (t, cs.length) }
theorem s_newCells {cs : List AV} {len sz : Nat} {e : TypeId} (hw : wantedA ops (lk env) o = some true) (he : opA C X.A (rho C (lk env)) (lk loc) h.get o = some (.newCells cs len sz e)) (hd : o.dst = some d) (ho : Nat.blt d X.n = true)
  (hk : wpL C Or Xo X ops l (k + 1) ⟨(d, .msl h.next 0 len 0 sz) :: env, loc, h.newC cs e⟩ K) : wpL C Or Xo X ops (o :: l) k ⟨env, loc, h⟩ K := by
 refine s_op (σ := ⟨env, loc, h⟩) (σ' := ⟨(d, .msl h.next 0 len 0 sz) :: env, loc, h.newC cs e⟩) hw he ?_ hk
 simp only [applyS, hd, okD, ho, cond_true, putS, Hp.newC]
theorem s_grow {id : Nat} {cs : List AV} {ver : Nat} {e : TypeId} (hw : wantedA ops (lk env) o = some true) (he : opA C X.A (rho C (lk env)) (lk loc) h.get o = some (.grow id cs ver v e)) (hd : o.dst = some d) (ho : okS X d = true)
  (hk : wpL C Or Xo X ops l (k + 1) ⟨(d, v) :: env, loc, h.grown id cs ver e⟩ K) : wpL C Or Xo X ops (o :: l) k ⟨env, loc, h⟩ K := by
 obtain ⟨h1, h2⟩ := okS_spec ho
 refine s_op (σ := ⟨env, loc, h⟩) (σ' := ⟨(d, v) :: env, loc, h.grown id cs ver e⟩) hw he ?_ hk
 simp only [applyS, hd, h1, h2, cond_true, cond_false, putS, Hp.grown]
theorem s_newVar {cs : List AV} {t : TypeId} (hw : wantedA ops (lk env) o = some true) (he : opA C X.A (rho C (lk env)) (lk loc) h.get o = some (.newVar cs t)) (hd : o.dst = some d) (ho : Nat.blt d X.n = true)
  (hk : wpL C Or Xo X ops l (k + 1) ⟨(d, .ptr h.next 0 0) :: env, loc, h.newV cs t⟩ K) : wpL C Or Xo X ops (o :: l) k ⟨env, loc, h⟩ K := by
 refine s_op (σ := ⟨env, loc, h⟩) (σ' := ⟨(d, .ptr h.next 0 0) :: env, loc, h.newV cs t⟩) hw he ?_ hk
 simp only [applyS, hd, okD, ho, cond_true, putS, Hp.newV]
theorem s_newMap (hw : wantedA ops (lk env) o = some true) (he : opA C X.A (rho C (lk env)) (lk loc) h.get o = some .newMap) (hd : o.dst = some d) (ho : Nat.blt d X.n = true)
  (hk : wpL C Or Xo X ops l (k + 1) ⟨(d, .map h.next) :: env, loc, h.alloc (.map [])⟩ K) : wpL C Or Xo X ops (o :: l) k ⟨env, loc, h⟩ K := by
 refine s_op (σ := ⟨env, loc, h⟩) (σ' := ⟨(d, .map h.next) :: env, loc, h.alloc (.map [])⟩) hw he ?_ hk
 simp only [applyS, hd, okD, ho, cond_true, putS]
theorem s_no (hw : wantedA ops (lk env) o = some false) (hd : o.dst = some d) (ho : Nat.blt d X.n = true)
  (hk : wpL C Or Xo X ops l (k + 1) ⟨(d, .tuple []) :: env, loc, h⟩ K) : wpL C Or Xo X ops (o :: l) k ⟨env, loc, h⟩ K := by
 refine s_off (σ := ⟨env, loc, h⟩) hw (by simp only [hd, okD, ho]) ?_
 simp only [hd, putS]; exact hk
theorem s_ret1 {f : FuncId} {args : List AV} {R : AV → Hp → Prop} (hr : Ret C Or Xo f args h R) (hw : wantedA ops (lk env) o = some true) (hc : callOf C (lk env) o = some (.call f args)) (hd : o.dst = some d) (ho : okS X d = true)
  (hk : ∀ v h', R v h' → wpL C Or Xo X ops l (k + 1) ⟨(d, v) :: env, loc, h'⟩ K) : wpL C Or Xo X ops (o :: l) k ⟨env, loc, h⟩ K := by
 obtain ⟨h1, h2⟩ := okS_spec ho
 refine s_call (σ := ⟨env, loc, h⟩) hw hc (by rw [hd]; exact h1) (by rw [hd]; exact h2) hr fun v h' hR => ?_
 simp only [hd, putS]; exact hk v h' hR
theorem s_ret0 {f : FuncId} {args : List AV} {R : AV → Hp → Prop} (hr : Ret C Or Xo f args h R) (hw : wantedA ops (lk env) o = some true) (hc : callOf C (lk env) o = some (.call f args)) (hd : o.dst = none)
  (hk : ∀ v h', R v h' → wpL C Or Xo X ops l (k + 1) ⟨env, loc, h'⟩ K) : wpL C Or Xo X ops (o :: l) k ⟨env, loc, h⟩ K := by
 refine s_call (σ := ⟨env, loc, h⟩) hw hc (by rw [hd]; rfl) (by rw [hd]; rfl) hr fun v h' hR => ?_
 simp only [hd, putS]; exact hk v h' hR
theorem body {f : FuncId} {fn : Func} {c : Code} {args : List AV} {R : AV → Hp → Prop} {env : List (Nat × AV)} {n : Nat} {A : FAnn} {rs : List ResultVar} (hf : C.P.funcs[f]? = some fn) (hb : fn.body = some c) (he : (args.zipIdx.map fun p => (p.2, p.1)) = env)
  (hn : fn.ntmps = n) (hA : C.A f = A) (hr : fn.results.toList = rs)
  (h1 : wpC C Or Xo ⟨f, n, A, none⟩ c ⟨env, [], h⟩ (fun e σ' => (e = .normal ∨ e = .ret) ∧ ∃ vs, allSome (rs.map (resA C σ'.to)) = some vs ∧ R (retA vs) σ'.h)) :
  Ret C Or Xo f args h R := by
 subst hn; subst hA; subst hr
 exact ret_of_body hf hb he h1
/-! ### What operations hand back where memory or numbers are not told -/
variable {ρ : Operand → Option AV} {L : Loc} {H : Nat → Option Obj} {A : FAnn}
theorem o_load {t : TypeId} {p : Operand} {id off ver : Nat} {ti : TI} {cs r : List AV} (hop : o.op = .load t p) (hp : ρ p = some (.ptr id off ver)) (ht : C.T t = some ti) (hg : H id = some (.cells cs ver))
  (hr : takeExact ti.size off cs = some r) (hv : oneOf ti.agg r = some v) : opA C A ρ L H o = some (.val v) := by
 unfold opA
 simp only [hop, hp, loadA, ht, hg, if_true, hr, hv, Option.map_some]
theorem o_loadD {t : TypeId} {p : Operand} {ti : TI} {cs r : List DV} (hop : o.op = .load t p) (hp : ρ p = some (.d (.iptr cs))) (ht : C.T t = some ti)
  (hr : takeExact ti.size 0 cs = some r) (hv : oneOfD ti.agg r = some v) : opA C A ρ L H o = some (.val v) := by
 unfold opA
 simp only [hop, hp, loadA, ht, hr, hv, Option.map_some]
theorem o_loadL {t : TypeId} {p : Operand} {key off : Nat} {ti : TI} {cs r : List AV} (hop : o.op = .load t p) (hp : ρ p = some (.lptr key off)) (ht : C.T t = some ti) (hg : L key = some cs)
  (hr : takeExact ti.size off cs = some r) (hv : oneOf ti.agg r = some v) : opA C A ρ L H o = some (.val v) := by
 unfold opA
 simp only [hop, hp, loadA, ht, hg, hr, hv, Option.map_some]
theorem o_index {t e : TypeId} {x i : Operand} {id off len ver sz : Nat} {ki : IntKind} {n : Int} {b1 : Nat} {b2 : Bool} {b3 : Nat} {b4 : List DV} {ei : TI} (hop : o.op = .indexAddr t x i) (hx : ρ x = some (.msl id off len ver sz)) (hi : ρ i = some (.d (.int ki n)))
  (ht : C.T t = some ⟨.slice e, b1, b2, b3, b4⟩) (hte : C.T e = some ei) (hs : sz = ei.size) (h0 : 0 ≤ n) (hn : n < len) : opA C A ρ L H o = some (.val (.ptr id (off + n.toNat * ei.size) ver)) := by
 unfold opA
 simp only [hop, hx, hi, indexAddrA, intOf?, ht, hte]
 rw [if_pos ⟨hs, h0, hn⟩]
 rfl
theorem o_indexD {t e : TypeId} {x i : Operand} {cs : List DV} {len : Nat} {ki : IntKind} {n : Int} {b1 : Nat} {b2 : Bool} {b3 : Nat} {b4 : List DV} {ei : TI} (hop : o.op = .indexAddr t x i) (hx : ρ x = some (.d (.imm cs len))) (hi : ρ i = some (.d (.int ki n)))
  (ht : C.T t = some ⟨.slice e, b1, b2, b3, b4⟩) (hte : C.T e = some ei) (h0 : 0 ≤ n) (hn : n < len) : opA C A ρ L H o = some (.val (.d (.iptr (cs.drop (n.toNat * ei.size))))) := by
 unfold opA
 simp only [hop, hx, hi, indexAddrA, intOf?, ht, hte]
 rw [if_pos ⟨h0, hn⟩]
 rfl
theorem o_store {t : TypeId} {p x : Operand} {id off ver : Nat} {w : AV} {ti : TI} {cs : List AV} (hop : o.op = .store t p x) (hp : ρ p = some (.ptr id off ver)) (hx : ρ x = some w) (ht : C.T t = some ti) (hl : w.cells.length = ti.size)
  (hL : w.isL = false) (hc : w.cells.all AV.isCell = true) (hg : H id = some (.cells cs ver)) (hn : off + w.cells.length ≤ cs.length) :
  opA C A ρ L H o = some (.setH id (.cells (putAt cs off w.cells) ver) none) := by
 unfold opA
 simp only [hop, hp, hx, storeA, ht, hg]
 rw [if_neg (by simp [hl, hL]; simpa using hc), if_pos ⟨trivial, hn⟩]
end
end Go.Dv
/- Regions that draw their order, in contracts. -/
namespace Go.Dv
def stS (tr : List SSt) (last : SSt) (p : Nat) : SSt := (tr[p]?).getD last
section
variable (C : Ctx) (Or : FuncId → List AV → Hp → AV → Hp → Prop) (Xo : FuncId → List AV → AV → Prop)
/-- One operation after the other. -/
inductive PathS (X : Fr) (ops : Array Oper) : List Nat → SSt → List SSt → SSt → Prop
 | nil {σ} : PathS X ops [] σ [] σ
 | cons {i l σ σ₁ tr σ'} (h1 : One C Or Xo X ops i σ.to σ₁.to) (h2 : PathS X ops l σ₁ tr σ') : PathS X ops (i :: l) σ (σ :: tr) σ'
def wpO (X : Fr) (ops : Array Oper) (l : List Nat) (acc : List SSt) (σ : SSt) (K : List SSt → SSt → Prop) : Prop :=
 ∃ tr σ', PathS C Or Xo X ops l σ tr σ' ∧ K (acc.reverse ++ tr) σ'
variable (A : FAnn) (ops : Array Oper) (pl : DPlan) (tr : List SSt) (last : SSt)
/-- Values read elsewhere are the same. -/
def FlS : List (Nat × Nat) → Prop
 | [] => True
 | (q, p) :: r => (∀ o, (pl.ord[q]?).bind (fun j => ops[j]?) = some o → wantedA ops (lk (stS tr last q).env) o = some true →
   opA C A (rho C (lk (stS tr last q).env)) (lk (stS tr last p).loc) (stS tr last p).h.get o = opA C A (rho C (lk (stS tr last q).env)) (lk (stS tr last q).loc) (stS tr last q).h.get o) ∧ FlS r
def keyS (q j : Nat) : Bool :=
 match ops[j]? with
 | some o => match o.dst with
  | some d =>
   noL d (stS tr last 0).env && noL d (stS tr last q).env &&
   allI (fun i oi => match oi.dst with
    | some t => !(isLKey (lk last.env t) d) || (Nat.beq i j || pl.clo i j)
    | none => true) 0 ops.toList &&
   allI (fun q' j' => match ops[j']? with
    | some o' => o'.op.operands.toList.all fun x => !(isLKey (rho C (lk (stS tr last q').env) x) d) || pl.clo j' j
    | none => false) 0 pl.ord
  | none => false
 | none => false
def Key5 (q j d : Nat) : List Nat → Prop
 | [] => True
 | p :: r => (cond (Nat.blt p pl.nA || !(allB (fun i => !(pl.w i) || !(pl.clo i j)) (pl.ord.take p))) True (lk (stS tr last p).loc d = lk (stS tr last (q + 1)).loc d)) ∧ Key5 q j d r
def KeyS : Nat → List Nat → Prop
 | _, [] => True
 | q, j :: r => (keyS C ops pl tr last q j = true ∧ ∀ o d, ops[j]? = some o → o.dst = some d → Key5 pl tr last q j d (List.range (pl.ord.length + 1))) ∧ KeyS (q + 1) r
end
section
variable {C : Ctx} {Or : FuncId → List AV → Hp → AV → Hp → Prop} {Xo : FuncId → List AV → AV → Prop} {X : Fr} {ops : Array Oper} {pl : DPlan} {tr : List SSt} {last : SSt} {σ : SSt}
theorem PathS.spec {l : List Nat} (h : PathS C Or Xo X ops l σ tr last) :
  tr.length = l.length ∧ stS tr last 0 = σ ∧ stS tr last l.length = last ∧ ∀ (p j : Nat), l[p]? = some j → One C Or Xo X ops j (stS tr last p).to (stS tr last (p + 1)).to := by
 induction h with
 | nil => exact ⟨rfl, rfl, rfl, fun p j h => by simp at h⟩
 | @cons i l σ σ₁ tr σ' h1 h2 ih =>
  obtain ⟨i1, i2, i3, i4⟩ := ih
  refine ⟨by simp [i1], rfl, ?_, fun p j hj => ?_⟩
  ·simpa [stS] using i3
  ·cases p with
   | zero =>
    simp at hj; subst hj
    have : stS (σ :: tr) σ' (0 + 1) = σ₁ := i2
    rw [this]; exact h1
   | succ p =>
    have := i4 p j (by simpa using hj)
    simpa [stS] using this
theorem FlS_spec {A : FAnn} : ∀ {l : List (Nat × Nat)}, FlS C A ops pl tr last l → ∀ q p, (q, p) ∈ l → ∀ (j : Nat) o, pl.ord[q]? = some j → ops[j]? = some o →
  wantedA ops (lk (stS tr last q).env) o = some true →
   opA C A (rho C (lk (stS tr last q).env)) (lk (stS tr last p).loc) (stS tr last p).h.get o = opA C A (rho C (lk (stS tr last q).env)) (lk (stS tr last q).loc) (stS tr last q).h.get o
 | [], _, q, p, h, _, _, _, _ => by simp at h
 | (a, b) :: r, h, q, p, hm, j, o, hj, ho => by
  rcases List.mem_cons.1 hm with h1 | h1
  ·cases h1
   exact h.1 o (by rw [hj]; exact ho)
  ·exact FlS_spec h.2 q p h1 j o hj ho
theorem Key5_spec {q j d : Nat} : ∀ {l : List Nat}, Key5 pl tr last q j d l → ∀ p ∈ l, pl.nA ≤ p → (∀ i ∈ pl.ord.take p, pl.w i = true → pl.clo i j = false) → lk (stS tr last p).loc d = lk (stS tr last (q + 1)).loc d
 | [], _, p, h, _, _ => by simp at h
 | a :: r, h, p, hm, hp, hn => by
  rcases List.mem_cons.1 hm with h1 | h1
  ·subst h1
   have h2 := h.1
   have h3 : Nat.blt p pl.nA = false := by
    cases hb : Nat.blt p pl.nA with
    | false => rfl
    | true => have := lt_of_blt hb; omega
   have gen : ∀ l : List Nat, (∀ i ∈ l, pl.w i = true → pl.clo i j = false) → allB (fun i => !pl.w i || !pl.clo i j) l = true := fun l => by
    induction l with
    | nil => intro _; rfl
    | cons a l ih =>
     intro h
     simp only [allB, Bool.and_eq_true, Bool.or_eq_true, Bool.not_eq_true']
     refine ⟨?_, ih fun i hi => h i (by simp [hi])⟩
     cases hw : pl.w a with
     | false => exact .inl rfl
     | true => exact .inr (h a (by simp) hw)
   rw [h3, gen _ hn] at h2
   exact h2
  ·exact Key5_spec h.2 p h1 hp hn
theorem KeyS_spec : ∀ {l : List Nat} {k : Nat}, KeyS C ops pl tr last k l → ∀ (q j : Nat), l[q]? = some j → keyS C ops pl tr last (k + q) j = true ∧ ∀ o d, ops[j]? = some o → o.dst = some d → Key5 pl tr last (k + q) j d (List.range (pl.ord.length + 1))
 | [], _, _, q, j, h => by simp at h
 | a :: r, k, h, 0, j, hj => by
  simp at hj; subst hj; exact h.1
 | a :: r, k, h, q + 1, j, hj => by
  have := KeyS_spec h.2 q j (by simpa using hj)
  rwa [show k + 1 + q = k + (q + 1) by omega] at this
theorem pathS_drawn (hpath : PathS C Or Xo X ops pl.ord σ tr last) (hpl : planOk C X.A ops pl = true) (hfl : FlS C X.A ops pl tr last pl.fl) (hkey : KeyS C ops pl tr last 0 (pl.ord.take pl.nA)) :
  Drawn C Or Xo X ops pl.ord pl.w pl.nA pl.clo (fun p => (stS tr last p).to) := by
 have P := planOk_spec hpl
 obtain ⟨hlen, hst0, hstN, hone⟩ := hpath.spec
 have hpos : ∀ (q j : Nat) o, pl.ord[q]? = some j → ops[j]? = some o → (q < pl.nA → pl.w j = false ∧ isAl X.A o = true) ∧
   (pl.nA ≤ q → (isNew o = true → ∀ d, o.dst = some d → d ∈ X.A.heap) ∧ (pl.w j = false → isR C X.A o = true ∧ noFrz X.A o = true ∧ (isPure C o = true ∨
    ∀ p, p ≤ pl.ord.length → pl.nA ≤ p → flB pl q j p = true))) := fun q j o hq ho => by
  have h := P.pos q j hq
  unfold posB at h
  rw [ho] at h
  simp only at h
  cases hb : Nat.blt q pl.nA with
  | true =>
   have hlt := lt_of_blt hb
   rw [hb] at h
   simp only [cond_true, Bool.and_eq_true, Bool.not_eq_true'] at h
   exact ⟨fun _ => h, fun h1 => absurd h1 (by omega)⟩
  | false =>
   have hge : pl.nA ≤ q := by
    rcases Nat.lt_or_ge q pl.nA with h1 | h1
    ·have : Nat.blt q pl.nA = true := Nat.ble_eq_true_of_le h1
     rw [hb] at this; cases this
    ·exact h1
   rw [hb] at h
   simp only [cond_false, Bool.and_eq_true, Bool.or_eq_true, Bool.not_eq_true'] at h
   obtain ⟨h1, h2⟩ := h
   refine ⟨fun h3 => absurd h3 (by omega), fun _ => ⟨fun hn d hd => ?_, fun hw => ?_⟩⟩
   ·rcases h1 with h1 | h1
    ·rw [hn] at h1; cases h1
    ·rw [hd] at h1; exact memB_spec.1 h1
   ·rw [hw] at h2
    simp only [cond_false, Bool.and_eq_true, Bool.or_eq_true] at h2
    refine ⟨h2.1.1, h2.1.2, h2.2.imp id fun h3 p hp hnp => ?_⟩
    have := allB_spec h3 p (List.mem_range.2 (by omega))
    simp only [Bool.or_eq_true] at this
    rcases this with h4 | h4
    ·have := lt_of_blt h4; omega
    ·exact h4
 have hfrz : ∀ {o : Oper}, noFrz X.A o = true → ∀ d, o.dst = some d → d ∉ X.A.frz := fun {o} h d hd hm => by
  unfold noFrz at h
  rw [hd] at h
  simp only at h
  rw [memB_spec.2 hm] at h; cases h
 have hrd : ∀ (p j : Nat) o, pl.ord[p]? = some j → pl.nA ≤ p → pl.w j = false → ops[j]? = some o → Rd C X ops o (stS tr last p).to (stS tr last (p + 1)).to := fun p j o hj hp hw ho => by
  obtain ⟨h1, h2, _⟩ := ((hpos p j o hj ho).2 hp).2 hw
  exact Rd.of_one (hone p j hj) ho h1 (hfrz h2)
 have hmem := mem_steps (ord := pl.ord) (nA := pl.nA) (wr := pl.w) (τ := fun p => (stS tr last p).to) (fun p j hj hp hw => by
  have hsz := P.lt j (List.mem_of_getElem? hj)
  have ho : ops[j]? = some ops[j] := by simp [hsz]
  have := hrd p j _ hj hp hw ho
  exact ⟨this.loc, this.h⟩)
 have hsame : ∀ a b, pl.nA ≤ a → pl.nA ≤ b → a ≤ pl.ord.length → b ≤ pl.ord.length → wmask pl (pl.ord.take a) = wmask pl (pl.ord.take b) →
   (stS tr last a).to.loc = (stS tr last b).to.loc ∧ (stS tr last a).to.h = (stS tr last b).to.h := fun a b ha hb hal hbl he => by
  rcases Nat.le_total a b with h | h
  ·obtain ⟨k, rfl⟩ : ∃ k, b = a + k := ⟨b - a, by omega⟩
   have := hmem k a ha hbl fun q j h1 h2 hj => noWrite P.nodup he q j h1 h2 hj
   exact ⟨this.1.symm, this.2.symm⟩
  ·obtain ⟨k, rfl⟩ : ∃ k, a = b + k := ⟨a - b, by omega⟩
   have := hmem k b hb hal fun q j h1 h2 hj => noWrite P.nodup he.symm q j h1 h2 hj
   exact ⟨this.1, this.2⟩
 have hkeys : ∀ (q j : Nat) o d, pl.ord[q]? = some j → q < pl.nA → ops[j]? = some o → o.dst = some d →
   (∀ t off, lk (stS tr last 0).env t ≠ some (.lptr d off)) ∧ (∀ t off, lk (stS tr last q).env t ≠ some (.lptr d off)) ∧
   (∀ (i : Nat) oi t off, ops[i]? = some oi → oi.dst = some t → lk last.env t = some (.lptr d off) → i = j ∨ pl.clo i j = true) ∧
   (∀ (q' j' : Nat) o' x off, pl.ord[q']? = some j' → ops[j']? = some o' → x ∈ o'.op.operands.toList → rho C (lk (stS tr last q').env) x = some (.lptr d off) → pl.clo j' j = true) ∧
   (∀ p, pl.nA ≤ p → p ≤ pl.ord.length → (∀ i ∈ pl.ord.take p, pl.w i = true → pl.clo i j = false) → lk (stS tr last p).loc d = lk (stS tr last (q + 1)).loc d) := fun q j o d hq hqn ho hd => by
  have h0 := KeyS_spec hkey q j (by rw [List.getElem?_take_of_lt hqn]; exact hq)
  rw [Nat.zero_add] at h0
  obtain ⟨h, h5⟩ := h0
  unfold keyS at h
  simp only [ho, hd, Bool.and_eq_true] at h
  obtain ⟨⟨⟨h1, h2⟩, h3⟩, h4⟩ := h
  refine ⟨noL_spec h1, noL_spec h2, fun i oi t off hoi hdi hv => ?_, fun q' j' o' x off hq' ho' hx hv => ?_, fun p hp hpl hn => ?_⟩
  ·have := allI_spec h3 i oi (by rw [Array.getElem?_toList]; exact hoi)
   simp only [Nat.zero_add, hdi, isLKey_spec hv, Bool.not_true, Bool.false_or, Bool.or_eq_true] at this
   exact this.imp Nat.eq_of_beq_eq_true id
  ·have := allI_spec h4 q' j' hq'
   simp only [Nat.zero_add, ho', List.all_eq_true] at this
   have := this x hx
   simpa only [isLKey_spec hv, Bool.not_true, Bool.false_or] using this
  ·exact Key5_spec (h5 o d ho hd) p (List.mem_range.2 (by omega)) hp hn
 have halpos : ∀ (p j : Nat) o d, pl.ord[p]? = some j → ops[j]? = some o → isNew o = true → o.dst = some d → d ∉ X.A.heap → p < pl.nA := fun p j o d hj ho hn hd hh => by
  rcases Nat.lt_or_ge p pl.nA with h | h
  ·exact h
  ·exact absurd (((hpos p j o hj ho).2 h).1 hn d hd) hh
 refine ⟨P.nodup, P.all, P.lt, P.nA_le, P.edge, P.clo_edge, P.topo, P.dst, P.looks, P.wrt, fun p i hi hp => ?_, fun p i o d hi hp hw ho hd => ?_, hone, hrd, fun p j o d hj ho hn hd hh => ?_,
  fun p q i j o oi key x off hq ho hx hv hp hpn hoi hdi => ?_, fun q j o d p hq hqn ho hd hp hpl hn => ?_, fun q j o p hq hqn hw ho hg hp hpl h1 h2 => ?_⟩
 ·have hsz := P.lt i (List.mem_of_getElem? hi)
  have ho : ops[i]? = some ops[i] := by simp [hsz]
  obtain ⟨h1, h2⟩ := (hpos p i _ hi ho).1 hp
  obtain ⟨t, d, h3, h4, h5⟩ := isAl_spec h2
  exact ⟨h1, _, t, d, ho, h3, h4, h5⟩
 ·exact hfrz (((hpos p i o hi ho).2 hp).2 hw).2.1 d hd
 ·obtain ⟨k1, k2, k3, _, _⟩ := hkeys p j o d hj (halpos p j o d hj ho hn hd hh) ho hd
  refine ⟨noKey_self k2, k1, fun i oi t off hoi hdi hv => ?_⟩
  simp only [hstN] at hv
  exact k3 i oi t off hoi hdi hv
 ·exact (hkeys p i oi key hp hpn hoi hdi).2.2.2.1 q j o x off hq ho hx hv
 ·refine (hkeys q j o d hq hqn ho hd).2.2.2.2 p hp hpl fun i hi hw => ?_
  obtain ⟨r, hr1, hr2⟩ := take_mem hi
  exact hn r i hr2 hw hr1
 ·rcases (((hpos q j o hq ho).2 hqn).2 hw).2.2 with h3 | h3
  ·exact isPure_same h3
  ·have h4 := h3 p hpl hp
   simp only [flB, Bool.or_eq_true, Bool.not_eq_true'] at h4
   have hq' : q < pl.ord.length := (List.getElem?_eq_some_iff.1 hq).1
   rcases h4 with ((h4 | h4) | h4) | h4
   ·exfalso
    have : subB (Nat.land (pl.cl.getD j 0) pl.wr) (wmask pl (pl.ord.take p)) = true := by
     unfold subB
     have : Nat.land (Nat.land (pl.cl.getD j 0) pl.wr) (wmask pl (pl.ord.take p)) = Nat.land (pl.cl.getD j 0) pl.wr := by
      apply Nat.eq_of_testBit_eq
      intro i
      change (((pl.cl.getD j 0) &&& pl.wr) &&& (wmask pl (pl.ord.take p))).testBit i = ((pl.cl.getD j 0) &&& pl.wr).testBit i
      simp only [Nat.testBit_and]
      cases hb : ((pl.cl.getD j 0).testBit i && pl.wr.testBit i) with
      | false => rfl
      | true =>
       simp only [Bool.and_eq_true] at hb
       have hc1 : pl.clo j i = true := by unfold DPlan.clo; rw [bit_eq]; exact hb.1
       have hw1 : pl.w i = true := by unfold DPlan.w; rw [bit_eq]; exact hb.2
       obtain ⟨e, he1, he2, he3⟩ := P.clo_edge j o i ho hc1
       have hi : i < ops.size := by
        have hjs : j < ops.size := (Array.getElem?_eq_some_iff.1 ho).1
        have key : ∀ n j, j < n → ∀ o i, ops[j]? = some o → pl.clo j i = true → i < j := by
         intro n
         induction n with
         | zero => intro j h; exact absurd h (Nat.not_lt_zero _)
         | succ n ih =>
          intro j hj o i ho hc
          obtain ⟨e, h5, h6, h7⟩ := P.clo_edge j o i ho hc
          have h8 := P.edge j o e ho h5 h6
          rcases h7 with rfl | h7
          ·exact h8
          ·have hjs : j < ops.size := (Array.getElem?_eq_some_iff.1 ho).1
           have ho' : ops[e.on]? = some ops[e.on] := by simp [show e.on < ops.size by omega]
           have := ih e.on (by omega) _ i ho' h7
           omega
        have := key _ j (Nat.lt_succ_self j) o i ho hc1
        omega
       obtain ⟨r, hr⟩ := List.getElem?_of_mem (P.all i hi)
       have hlt := h1 r i hr hw1 hc1
       have := (wmask_spec (pl := pl) (i := i)).2 ⟨mem_take hr hlt, hw1⟩
       rw [bit_eq] at this
       simp [this]
     rw [this]; simp
    rw [h4] at this; cases this
   ·exfalso
    have : allB (fun i => !pl.w i || !pl.clo i j) (pl.ord.take p) = true := by
     have gen : ∀ l : List Nat, (∀ i ∈ l, pl.w i = true → pl.clo i j = false) → allB (fun i => !pl.w i || !pl.clo i j) l = true := fun l => by
      induction l with
      | nil => intro _; rfl
      | cons a l ih =>
       intro h
       simp only [allB, Bool.and_eq_true, Bool.or_eq_true, Bool.not_eq_true']
       refine ⟨?_, ih fun i hi => h i (by simp [hi])⟩
       cases hw : pl.w a with
       | false => exact .inl rfl
       | true => exact .inr (h a (by simp) hw)
     exact gen _ fun i hi hwi => by
      obtain ⟨r, hr1, hr2⟩ := take_mem hi
      exact h2 r i hr2 hwi hr1
    rw [h4] at this; cases this
   ·have := hsame p q hp hqn hpl (Nat.le_of_lt hq') (Nat.eq_of_beq_eq_true h4)
    rw [this.1, this.2]
   ·obtain ⟨y, hy1, hy2, hy3, hy4⟩ := flAt_spec h4
    have h5 := FlS_spec hfl q y hy1 j o hq ho hg
    have h6 := hsame p y hp hy2 hpl hy3 hy4.symm
    rw [h6.1, h6.2]
    exact h5
variable {Q : Ex → SSt → Prop} {K : List SSt → SSt → Prop} {l : List Nat} {acc : List SSt} {o : Oper} {i d : Nat} {v : AV}
 {env : List (Nat × AV)} {loc : List (Nat × List AV)} {h : Hp}
/-- A region whose order is drawn, in the order that a plan tells. -/
theorem s_drawn {id : Nat} (pl : DPlan) (hpl : planOk C X.A ops pl = true)
  (h : wpO C Or Xo X ops pl.ord [] σ (fun tr σ' => FlS C X.A ops pl tr σ' pl.fl ∧ KeyS C ops pl tr σ' 0 (pl.ord.take pl.nA) ∧ Q .normal σ')) : wpC C Or Xo X (.region id ops true) σ Q := by
 obtain ⟨tr, σ', hp, h1, h2, h3⟩ := h
 have D := pathS_drawn hp hpl h1 h2
 obtain ⟨_, h0, hN, _⟩ := hp.spec
 refine ⟨.normal, σ', ?_, h3⟩
 have key : ∀ t, Big C Or Xo (.ops X ops (Region.linearise .any ops t) σ.to) (.code .normal σ'.to) := fun t => by
  have := D.big t
  simp only [h0, hN] at this
  exact this
 exact .drawn (σ := σ.to) (E₀ := σ.to.env) (σ₁ := σ'.to) (E := σ'.to.env) (fun _ _ h => h) key (fun _ _ h => h)
theorem d_nil (h : K acc.reverse σ) : wpO C Or Xo X ops [] acc σ K := ⟨[], σ, .nil, by simpa using h⟩
theorem d_one {σ₁ : SSt} (h1 : One C Or Xo X ops i σ.to σ₁.to) (h : wpO C Or Xo X ops l (σ :: acc) σ₁ K) : wpO C Or Xo X ops (i :: l) acc σ K := by
 obtain ⟨tr, σ', h2, h3⟩ := h
 exact ⟨σ :: tr, σ', .cons h1 h2, by simpa using h3⟩
theorem d_op {eff : Eff} {σ₁ : SSt} (hi : ops[i]? = some o) (hw : wantedA ops (lk σ.env) o = some true) (he : opA C X.A (rho C (lk σ.env)) (lk σ.loc) σ.h.get o = some eff) (ha : applyS X.A X.n o.dst σ eff = some σ₁)
  (h : wpO C Or Xo X ops l (σ :: acc) σ₁ K) : wpO C Or Xo X ops (i :: l) acc σ K := d_one (.op (σ := σ.to) hi hw he (applyS_spec ha)) h
theorem d_val (hi : ops[i]? = some o) (hw : wantedA ops (lk env) o = some true) (he : opA C X.A (rho C (lk env)) (lk loc) h.get o = some (.val v)) (hd : o.dst = some d) (ho : okS X d = true)
  (hk : wpO C Or Xo X ops l (⟨env, loc, h⟩ :: acc) ⟨(d, v) :: env, loc, h⟩ K) : wpO C Or Xo X ops (i :: l) acc ⟨env, loc, h⟩ K := by
 obtain ⟨h1, h2⟩ := okS_spec ho
 refine d_op (σ := ⟨env, loc, h⟩) (σ₁ := ⟨(d, v) :: env, loc, h⟩) hi hw he ?_ hk
 simp only [applyS, hd, h1, h2, cond_true, cond_false, putS]
theorem d_frz {x : DV} {h' : Hp} (hi : ops[i]? = some o) (hw : wantedA ops (lk env) o = some true) (he : opA C X.A (rho C (lk env)) (lk loc) h.get o = some (.val v)) (hd : o.dst = some d) (ho : Nat.blt d X.n = true) (hf : memB d X.A.frz = true)
  (hz : frzV 400 h v = some (x, h')) (hk : wpO C Or Xo X ops l (⟨env, loc, h⟩ :: acc) ⟨(d, .d x) :: env, loc, h'⟩ K) : wpO C Or Xo X ops (i :: l) acc ⟨env, loc, h⟩ K := by
 refine d_op (σ := ⟨env, loc, h⟩) (σ₁ := ⟨(d, .d x) :: env, loc, h'⟩) hi hw he ?_ hk
 simp only [applyS, hd, okD, ho, isFrz, hf, hz, cond_true, putS]
theorem d_newL {cells : List AV} (hi : ops[i]? = some o) (hw : wantedA ops (lk env) o = some true) (he : opA C X.A (rho C (lk env)) (lk loc) h.get o = some (.newL cells)) (hd : o.dst = some d) (ho : Nat.blt d X.n = true) (hn : noL d env = true)
  (hk : wpO C Or Xo X ops l (⟨env, loc, h⟩ :: acc) ⟨(d, .lptr d 0) :: env, (d, cells) :: loc, h⟩ K) : wpO C Or Xo X ops (i :: l) acc ⟨env, loc, h⟩ K := by
 refine d_op (σ := ⟨env, loc, h⟩) (σ₁ := ⟨(d, .lptr d 0) :: env, (d, cells) :: loc, h⟩) hi hw he ?_ hk
 simp only [applyS, hd, okD, ho, hn, cond_true]
theorem d_setL {key : Nat} {cells : List AV} (hi : ops[i]? = some o) (hw : wantedA ops (lk env) o = some true) (he : opA C X.A (rho C (lk env)) (lk loc) h.get o = some (.setL key cells)) (hd : o.dst = none)
  (hk : wpO C Or Xo X ops l (⟨env, loc, h⟩ :: acc) ⟨env, (key, cells) :: loc, h⟩ K) : wpO C Or Xo X ops (i :: l) acc ⟨env, loc, h⟩ K := by
 refine d_op (σ := ⟨env, loc, h⟩) (σ₁ := ⟨env, (key, cells) :: loc, h⟩) hi hw he ?_ hk
 simp only [applyS, hd, okD, cond_true]
theorem d_setH {id : Nat} {ob : Obj} (hi : ops[i]? = some o) (hw : wantedA ops (lk env) o = some true) (he : opA C X.A (rho C (lk env)) (lk loc) h.get o = some (.setH id ob none)) (hd : o.dst = none)
  (hk : wpO C Or Xo X ops l (⟨env, loc, h⟩ :: acc) ⟨env, loc, h.set id ob⟩ K) : wpO C Or Xo X ops (i :: l) acc ⟨env, loc, h⟩ K := by
 refine d_op (σ := ⟨env, loc, h⟩) (σ₁ := ⟨env, loc, h.set id ob⟩) hi hw he ?_ hk
 simp only [applyS, hd, okD, cond_true]
theorem d_newCells {cs : List AV} {len sz : Nat} {e : TypeId} (hi : ops[i]? = some o) (hw : wantedA ops (lk env) o = some true) (he : opA C X.A (rho C (lk env)) (lk loc) h.get o = some (.newCells cs len sz e)) (hd : o.dst = some d) (ho : Nat.blt d X.n = true)
  (hk : wpO C Or Xo X ops l (⟨env, loc, h⟩ :: acc) ⟨(d, .msl h.next 0 len 0 sz) :: env, loc, h.newC cs e⟩ K) : wpO C Or Xo X ops (i :: l) acc ⟨env, loc, h⟩ K := by
 refine d_op (σ := ⟨env, loc, h⟩) (σ₁ := ⟨(d, .msl h.next 0 len 0 sz) :: env, loc, h.newC cs e⟩) hi hw he ?_ hk
 simp only [applyS, hd, okD, ho, cond_true, putS, Hp.newC]
theorem d_grow {id : Nat} {cs : List AV} {ver : Nat} {e : TypeId} (hi : ops[i]? = some o) (hw : wantedA ops (lk env) o = some true) (he : opA C X.A (rho C (lk env)) (lk loc) h.get o = some (.grow id cs ver v e)) (hd : o.dst = some d) (ho : okS X d = true)
  (hk : wpO C Or Xo X ops l (⟨env, loc, h⟩ :: acc) ⟨(d, v) :: env, loc, h.grown id cs ver e⟩ K) : wpO C Or Xo X ops (i :: l) acc ⟨env, loc, h⟩ K := by
 obtain ⟨h1, h2⟩ := okS_spec ho
 refine d_op (σ := ⟨env, loc, h⟩) (σ₁ := ⟨(d, v) :: env, loc, h.grown id cs ver e⟩) hi hw he ?_ hk
 simp only [applyS, hd, h1, h2, cond_true, cond_false, putS, Hp.grown]
theorem d_newVar {cs : List AV} {t : TypeId} (hi : ops[i]? = some o) (hw : wantedA ops (lk env) o = some true) (he : opA C X.A (rho C (lk env)) (lk loc) h.get o = some (.newVar cs t)) (hd : o.dst = some d) (ho : Nat.blt d X.n = true)
  (hk : wpO C Or Xo X ops l (⟨env, loc, h⟩ :: acc) ⟨(d, .ptr h.next 0 0) :: env, loc, h.newV cs t⟩ K) : wpO C Or Xo X ops (i :: l) acc ⟨env, loc, h⟩ K := by
 refine d_op (σ := ⟨env, loc, h⟩) (σ₁ := ⟨(d, .ptr h.next 0 0) :: env, loc, h.newV cs t⟩) hi hw he ?_ hk
 simp only [applyS, hd, okD, ho, cond_true, putS, Hp.newV]
theorem d_newMap (hi : ops[i]? = some o) (hw : wantedA ops (lk env) o = some true) (he : opA C X.A (rho C (lk env)) (lk loc) h.get o = some .newMap) (hd : o.dst = some d) (ho : Nat.blt d X.n = true)
  (hk : wpO C Or Xo X ops l (⟨env, loc, h⟩ :: acc) ⟨(d, .map h.next) :: env, loc, h.alloc (.map [])⟩ K) : wpO C Or Xo X ops (i :: l) acc ⟨env, loc, h⟩ K := by
 refine d_op (σ := ⟨env, loc, h⟩) (σ₁ := ⟨(d, .map h.next) :: env, loc, h.alloc (.map [])⟩) hi hw he ?_ hk
 simp only [applyS, hd, okD, ho, cond_true, putS]
theorem d_no (hi : ops[i]? = some o) (hw : wantedA ops (lk env) o = some false) (hd : o.dst = some d) (ho : Nat.blt d X.n = true)
  (hk : wpO C Or Xo X ops l (⟨env, loc, h⟩ :: acc) ⟨(d, .tuple []) :: env, loc, h⟩ K) : wpO C Or Xo X ops (i :: l) acc ⟨env, loc, h⟩ K :=
 d_one (σ := ⟨env, loc, h⟩) (σ₁ := ⟨(d, .tuple []) :: env, loc, h⟩) (.off (σ := SSt.to ⟨env, loc, h⟩) hi hw (by rw [hd]; exact putD_S (by simp only [okD, ho]))) hk
theorem d_ret1 {f : FuncId} {args : List AV} {R : AV → Hp → Prop} (hr : Ret C Or Xo f args h R) (hi : ops[i]? = some o) (hw : wantedA ops (lk env) o = some true) (hc : callOf C (lk env) o = some (.call f args)) (hd : o.dst = some d) (ho : okS X d = true)
  (hk : ∀ v h', R v h' → wpO C Or Xo X ops l (⟨env, loc, h⟩ :: acc) ⟨(d, v) :: env, loc, h'⟩ K) : wpO C Or Xo X ops (i :: l) acc ⟨env, loc, h⟩ K := by
 obtain ⟨h1, h2⟩ := okS_spec ho
 obtain ⟨v, h', hb, hR⟩ := hr
 exact d_one (σ := ⟨env, loc, h⟩) (σ₁ := ⟨(d, v) :: env, loc, h'⟩) (.call (σ := SSt.to ⟨env, loc, h⟩) hi hw hc hb (by rw [hd]; exact putV_S (σ := ⟨env, loc, h'⟩) h1 h2)) (hk v h' hR)
end
end Go.Dv
/- More facts for contracts: rows, lengths, append, heaps. -/
namespace Go.Dv
section
variable {C : Ctx} {A : FAnn} {ρ : Operand → Option AV} {L : Loc} {H : Nat → Option Obj} {o : Oper} {v w : AV}
theorem o_eq {v' : AV} (h : opA C A ρ L H o = some (.val v)) (e : v = v') : opA C A ρ L H o = some (.val v') := e ▸ h
theorem o_loadV {t : TypeId} {p : Operand} {q : AV} (hop : o.op = .load t p) (hp : ρ p = some q) (hv : loadA C L H t q = some v) : opA C A ρ L H o = some (.val v) := by
 unfold opA
 simp only [hop, hp, hv, Option.map_some]
theorem o_indexV {t : TypeId} {x i : Operand} {a b : AV} (hop : o.op = .indexAddr t x i) (hx : ρ x = some a) (hi : ρ i = some b) (hv : indexAddrA C t a b = some v) : opA C A ρ L H o = some (.val v) := by
 unfold opA
 simp only [hop, hx, hi, hv, Option.map_some]
theorem o_lenV {c : Call} {x : AV} {t : TypeId} {n : Nat} (hop : o.op = .call c) (hc : c.callee = .builtin .len) (hx : evalArgs ρ c.args.toList = some [x]) (ht : c.argTypes[0]? = some t) (hk : lenKind C t x = true)
  (hn : lenA H x = some n) : opA C A ρ L H o = some (.val (vint n)) := by
 unfold opA
 simp only [hop, hc, hx, ht, hk, hn, if_true, Option.map_some]
theorem o_append {c : Call} {s x : AV} {t : TypeId} {eff : Eff} (hop : o.op = .call c) (hc : c.callee = .builtin .append) (hx : evalArgs ρ c.args.toList = some [s, x]) (ht : c.argTypes[0]? = some t)
  (hv : appendA C H t c.argTypes[1]? s x = some eff) : opA C A ρ L H o = some eff := by
 unfold opA
 simp only [hop, hc, hx, ht, hv]
theorem o_storeV {t : TypeId} {p x : Operand} {a b : AV} {eff : Eff} (hop : o.op = .store t p x) (hp : ρ p = some a) (hx : ρ x = some b) (hv : storeA C L H t a b = some eff) : opA C A ρ L H o = some eff := by
 unfold opA
 simp only [hop, hp, hx, hv]
theorem o_storeL {t : TypeId} {p x : Operand} {key off : Nat} {ti : TI} {cs : List AV} (hop : o.op = .store t p x) (hp : ρ p = some (.lptr key off)) (hx : ρ x = some w) (ht : C.T t = some ti) (hl : w.cells.length = ti.size)
  (hL : w.isL = false) (hc : w.cells.all AV.isCell = true) (hg : L key = some cs) (hn : off + w.cells.length ≤ cs.length) :
  opA C A ρ L H o = some (.setL key (putAt cs off w.cells)) := by
 unfold opA
 simp only [hop, hp, hx, storeA, ht, hg]
 rw [if_neg (by simp [hl, hL]; simpa using hc), if_pos hn]
theorem o_sliceV {t : TypeId} {x y : Operand} {a b : AV} (hop : o.op = .slice t x none (some y) none) (hx : ρ x = some a) (hy : ρ y = some b) (hv : sliceA C t a none (some b) = some v) : opA C A ρ L H o = some (.val v) := by
 unfold opA
 simp only [hop, hx, hy, Option.map_some, hv]
/-- One cell of memory is written. -/
theorem o_store1 {t : TypeId} {p x : Operand} {id off ver : Nat} {ti : TI} {cs : List AV} (hop : o.op = .store t p x) (hp : ρ p = some (.ptr id off ver)) (hx : ρ x = some w) (ht : C.T t = some ti) (hs : ti.size = 1)
  (hw : w.cells = [w]) (hL : w.isL = false) (hc : w.isCell = true) (hg : H id = some (.cells cs ver)) (hn : off + 1 ≤ cs.length) :
  opA C A ρ L H o = some (.setH id (.cells (putAt cs off [w]) ver) none) := by
 have := o_store (C := C) (A := A) (L := L) hop hp hx ht (by rw [hw, hs]; rfl) hL (by rw [hw]; simp [hc]) hg (by rw [hw]; exact hn)
 rwa [hw] at this
theorem o_storeL1 {t : TypeId} {p x : Operand} {key off : Nat} {ti : TI} {cs : List AV} (hop : o.op = .store t p x) (hp : ρ p = some (.lptr key off)) (hx : ρ x = some w) (ht : C.T t = some ti) (hs : ti.size = 1)
  (hw : w.cells = [w]) (hL : w.isL = false) (hc : w.isCell = true) (hg : L key = some cs) (hn : off + 1 ≤ cs.length) :
  opA C A ρ L H o = some (.setL key (putAt cs off [w])) := by
 have := o_storeL (C := C) (A := A) (H := H) hop hp hx ht (by rw [hw, hs]; rfl) hL (by rw [hw]; simp [hc]) hg (by rw [hw]; exact hn)
 rwa [hw] at this
theorem o_boxL {t : TypeId} {x : Operand} {d : Nat} {ti : TI} (hop : o.op = .box t x) (hd : o.dst = some d) (hx : ρ x = some w) (ht : C.T t = some ti) (hl : w.cells.length = ti.size) (hL : w.isL = false) (hc : w.cells.all AV.isCell = true)
  (hh : decide (d ∈ A.heap) = false) : opA C A ρ L H o = some (.newL w.cells) := by
 unfold opA
 simp only [hop, hd, hx, ht]
 rw [if_neg (by simp [hl, hL]; simpa using hc), if_neg (of_decide_eq_false hh)]
theorem allD_map : ∀ (cs : List DV), allD (cs.map AV.d) = some cs
 | [] => rfl
 | c :: cs => by simp only [List.map_cons, allD, allD_map cs]
/-- A slice of one element of deep data. -/
theorem o_bs1 {t e : TypeId} {x : Operand} {d : Nat} {b1 : Nat} {b2 : Bool} {b3 : Nat} {b4 : List DV} {ei : TI} {cs : List DV} (hop : o.op = .buildSlice t 1 #[(0, x)]) (hd : o.dst = some d) (hx : ρ x = some w) (hw : w.cells = cs.map .d) (hL : w.isL = false)
  (ht : C.T t = some ⟨.slice e, b1, b2, b3, b4⟩) (he : C.T e = some ei) (hl : cs.length = ei.size) (hc : w.cells.all AV.isCell = true) (hz : ei.zero.length = ei.size) (hb : ei.size ≤ 2 ^ 24) (hh : decide (d ∈ A.marr) = false) :
  opA C A ρ L H o = some (.val (.d (.imm cs 1))) := by
 have h1 : evalAll ρ [(0, x)] = some [(0, w)] := by simp only [evalAll, hx]
 have h2 : buildSliceA C t 1 [(0, w)] = some (e, ei.size, cs.map .d) := by
  simp only [buildSliceA, ht, he]
  rw [if_neg (by omega)]
  have : fillA (fun i => some (i * ei.size, ei.size)) (repeatL (ei.zero.map AV.d) 1) [(0, w)] = some (cs.map .d) := by
   simp only [fillA]
   rw [if_neg (by
    rintro (h | h | h)
    ·rw [hw] at h; simp [hl] at h
    ·rw [hw] at h; simp [repeatL, hz, hl] at h
    ·rw [hc] at h; cases h)]
   simp only [repeatL, List.append_nil, putAt, Nat.zero_mul, List.take_zero, List.nil_append, Nat.zero_add, hw]
   rw [List.drop_of_length_le (by simp [hz, hl]), List.append_nil]
  rw [this]
 unfold opA
 simp only [hop, hd, h1, h2]
 rw [if_neg (by simp [hL]), if_neg (of_decide_eq_false hh), allD_map]
theorem c_val {C : Ctx} {env : Env} {c : Call} {f : Operand} {g : FuncId} {as : List AV} (hop : o.op = .call c) (hc : c.callee = .value f) (hf : rho C env f = some (.d (.fn g))) (ha : evalArgs (rho C env) c.args.toList = some as) : callOf C env o = some (.call g as) := by
 unfold callOf
 simp only [hop, hc, hf, ha, callValA]
theorem args1 {a : Operand} {v : AV} (h : ρ a = some v) (hl : v.isL = false) : evalArgs ρ [a] = some [v] := by
 simp [evalArgs, h, hl]
theorem args2 {a b : Operand} {v w : AV} (h : ρ a = some v) (hl : v.isL = false) (h2 : ρ b = some w) (hl2 : w.isL = false) : evalArgs ρ [a, b] = some [v, w] := by
 simp [evalArgs, h, hl, h2, hl2]
theorem args3 {a b c : Operand} {v w u : AV} (h : ρ a = some v) (hl : v.isL = false) (h2 : ρ b = some w) (hl2 : w.isL = false) (h3 : ρ c = some u) (hl3 : u.isL = false) : evalArgs ρ [a, b, c] = some [v, w, u] := by
 simp [evalArgs, h, hl, h2, hl2, h3, hl3]
theorem s_retF {C : Ctx} {Or : FuncId → List AV → Hp → AV → Hp → Prop} {Xo : FuncId → List AV → AV → Prop} {X : Fr} {K : SSt → Prop} {ops : Array Oper} {l : List Oper} {k : Nat} {o : Oper} {env : List (Nat × AV)} {loc : List (Nat × List AV)} {h : Hp}
  {f : FuncId} {args : List AV} {R : AV → Hp → Prop} {d : Nat} (hr : Ret C Or Xo f args h R) (hw : wantedA ops (lk env) o = some true) (hc : callOf C (lk env) o = some (.call f args)) (hd : o.dst = some d) (hlt : Nat.blt d X.n = true) (hf : memB d X.A.frz = true)
  (hk : ∀ v h', R v h' → ∃ x h'', frzV 400 h' v = some (x, h'') ∧ wpL C Or Xo X ops l (k + 1) ⟨(d, .d x) :: env, loc, h''⟩ K) : wpL C Or Xo X ops (o :: l) k ⟨env, loc, h⟩ K :=
 s_callF (σ := ⟨env, loc, h⟩) hw hc hd hlt hf hr hk
section append
variable {t : TypeId} {t2 : Option TypeId} {e : TypeId} {b1 : Nat} {b2 : Bool} {b3 : Nat} {b4 : List DV} {ei t2i : TI} {x : AV} {n : Nat} {new : List AV}
theorem appendA_nil (hT : C.T t = some ⟨.slice e, b1, b2, b3, b4⟩) (hT2 : t2.bind C.T = some t2i) (ha : appendable t2i.k = true) (hE : C.T e = some ei) (hb : ei.bytes ≤ 2 ^ 16)
  (hn : lenA H x = some n) (hx : elemsOf H ei.size x = some new) (hc : new.all AV.isCell = true) (hle : n ≤ 2 ^ 26) (hl : new.length = n * ei.size) (h0 : n ≠ 0) :
  appendA C H t t2 (.d .nilslice) x = some (.newCells new n ei.size e) := by
 have h2 : n * ei.bytes ≤ 2 ^ 26 * 2 ^ 16 := Nat.mul_le_mul hle hb
 unfold appendA
 simp only [hT, hT2, hE, hn, hx]
 rw [if_neg (by
  rintro (h | h | h | h | h | h)
  ·rw [hc] at h; cases h
  ·omega
  ·omega
  ·omega
  ·rw [ha] at h; cases h
  ·exact h hl), if_neg h0]
theorem appendA_row {id len ver : Nat} {cs : List AV} (hT : C.T t = some ⟨.slice e, b1, b2, b3, b4⟩) (hT2 : t2.bind C.T = some t2i) (ha : appendable t2i.k = true) (hE : C.T e = some ei) (hb : ei.bytes ≤ 2 ^ 16)
  (hn : lenA H x = some n) (hx : elemsOf H ei.size x = some new) (hc : new.all AV.isCell = true) (hle : n ≤ 2 ^ 26) (hl : new.length = n * ei.size)
  (hg : H id = some (.cells cs ver)) (hcs : cs.length = len * ei.size) (hlen : len ≤ 2 ^ 26) :
  appendA C H t t2 (.msl id 0 len ver ei.size) x = some (.grow id (cs ++ new) (ver + 1) (.msl id 0 (len + n) (ver + 1) ei.size) e) := by
 have h2 : n * ei.bytes ≤ 2 ^ 26 * 2 ^ 16 := Nat.mul_le_mul hle hb
 have h3 : (len + n) * ei.bytes ≤ 2 ^ 27 * 2 ^ 16 := Nat.mul_le_mul (by omega) hb
 unfold appendA
 simp only [hT, hT2, hE, hn, hx]
 rw [if_neg (by
  rintro (h | h | h | h | h | h)
  ·rw [hc] at h; cases h
  ·omega
  ·omega
  ·omega
  ·rw [ha] at h; cases h
  ·exact h hl)]
 simp only [hg]
 rw [if_pos ⟨trivial, trivial, trivial, by omega, by omega, by omega⟩, ← hcs, List.take_length]
end append
/-! ### Memory -/
theorem Hp.get_set {h : Hp} {id i : Nat} {ob : Obj} : (h.set id ob).get i = if i = id then some ob else h.get i := rfl
theorem Hp.get_set_eq {h : Hp} {id : Nat} {ob : Obj} : (h.set id ob).get id = some ob := if_pos rfl
theorem Hp.get_set_ne {h : Hp} {id i : Nat} {ob : Obj} (hne : i ≠ id) : (h.set id ob).get i = h.get i := if_neg hne
theorem Hp.get_newC {h : Hp} {cs : List AV} {e : TypeId} {i : Nat} : (h.newC cs e).get i = if i = h.next then some (.cells cs 0) else h.get i := rfl
theorem Hp.get_newV {h : Hp} {cs : List AV} {e : TypeId} {i : Nat} : (h.newV cs e).get i = if i = h.next then some (.cells cs 0) else h.get i := rfl
theorem Hp.get_alloc {h : Hp} {ob : Obj} {i : Nat} : (h.alloc ob).get i = if i = h.next then some ob else h.get i := rfl
theorem Hp.get_grown {h : Hp} {id : Nat} {cs : List AV} {ver : Nat} {e : TypeId} {i : Nat} : (h.grown id cs ver e).get i = if i = id then some (.cells cs ver) else h.get i := rfl
theorem Hp.next_set {h : Hp} {id : Nat} {ob : Obj} : (h.set id ob).next = h.next := rfl
theorem Hp.next_newC {h : Hp} {cs : List AV} {e : TypeId} : (h.newC cs e).next = h.next + 1 := rfl
theorem Hp.next_newV {h : Hp} {cs : List AV} {e : TypeId} : (h.newV cs e).next = h.next + 1 := rfl
theorem Hp.next_alloc {h : Hp} {ob : Obj} : (h.alloc ob).next = h.next + 1 := rfl
theorem Hp.next_grown {h : Hp} {id : Nat} {cs : List AV} {ver : Nat} {e : TypeId} : (h.grown id cs ver e).next = h.next := rfl
/-- Memory but for what is owned is as it was; what is owned then, was owned or is new. -/
structure Fram (h h' : Hp) (own own' : List Nat) : Prop where
 next : h.next ≤ h'.next
 keep : ∀ id, id < h.next → id ∉ own → h'.get id = h.get id
 new : ∀ id ∈ own', id ∈ own ∨ h.next ≤ id
theorem Fram.rfl' {h : Hp} {own : List Nat} : Fram h h own own := ⟨Nat.le_refl _, fun _ _ _ => rfl, fun _ h => .inl h⟩
theorem Fram.trans {h h1 h2 : Hp} {o o1 o2 : List Nat} (a : Fram h h1 o o1) (b : Fram h1 h2 o1 o2) : Fram h h2 o o2 where
 next := Nat.le_trans a.next b.next
 keep := fun id hl hn => by
  rw [b.keep id (Nat.lt_of_lt_of_le hl a.next) (fun hm => ?_), a.keep id hl hn]
  rcases a.new id hm with h | h
  ·exact hn h
  ·omega
 new := fun id hm => by
  rcases b.new id hm with h | h
  ·exact a.new id h
  ·exact .inr (Nat.le_trans a.next h)
/-! ### Rows of numbers -/
def nats (l : List Nat) : List AV := l.map fun n : Nat => vint n
/-- A row of numbers that can be read. -/
inductive RowN (H : Nat → Option Obj) : AV → List Nat → Prop
 | nil : RowN H (.d .nilslice) []
 | imm {l : List Nat} : RowN H (.d (.imm (l.map fun n : Nat => .int .i64 n) l.length)) l
 | row {id ver : Nat} {l : List Nat} {cs : List AV} (hg : H id = some (.cells cs ver)) (hc : cs.take l.length = nats l) : RowN H (.msl id 0 l.length ver 1) l
theorem take1 {α : Type} {l : List α} {i : Nat} {x : α} (h : l[i]? = some x) : takeExact 1 i l = some [x] := by
 have h1 : (l.drop i).take 1 = [x] := by
  apply List.ext_getElem?
  intro j
  cases j with
  | zero => simpa using h
  | succ j => rw [List.getElem?_eq_none (by simp; omega)]; simp
 unfold takeExact
 simp only [h1, List.length_cons, List.length_nil, if_true]
theorem RowN.len {l : List Nat} (h : RowN H v l) : lenA H v = some l.length := by
 cases h <;> rfl
theorem RowN.isL {l : List Nat} (h : RowN H v l) : v.isL = false := by
 cases h <;> rfl
theorem RowN.lenKind {l : List Nat} (h : RowN H v l) {t e : TypeId} {b1 : Nat} {b2 : Bool} {b3 : Nat} {b4 : List DV} (ht : C.T t = some ⟨.slice e, b1, b2, b3, b4⟩) : lenKind C t v = true := by
 cases h <;> simp only [Dv.lenKind, ht]
/-- One of them is read. -/
theorem RowN.read {l : List Nat} (h : RowN H v l) {i : Nat} (hi : i < l.length) {t e : TypeId} {b1 : Nat} {b2 : Bool} {b3 : Nat} {b4 : List DV} {ei : TI} (ht : C.T t = some ⟨.slice e, b1, b2, b3, b4⟩) (he : C.T e = some ei) (hs : ei.size = 1) (ha : ei.agg = false) :
  ∃ q, indexAddrA C t v (vint i) = some q ∧ loadA C L H e q = some (vint (l.getD i 0 : Nat)) := by
 have h0 : (0 : Int) ≤ i ∧ (i : Int) < (l.length : Nat) := ⟨Int.natCast_nonneg i, Int.ofNat_lt.2 hi⟩
 have hget : l[i]? = some (l.getD i 0) := by simp [hi]
 cases h with
 | nil => exact absurd hi (Nat.not_lt_zero _)
 | imm =>
  refine ⟨_, by simp only [indexAddrA, intOf?, vint, ht, he]; rw [if_pos h0], ?_⟩
  simp only [loadA, he, hs]
  have : takeExact 1 0 ((l.map fun n : Nat => DV.int .i64 n).drop ((i : Int).toNat * 1)) = some [DV.int .i64 (l.getD i 0 : Nat)] := by
   apply take1
   simp [hi]
  rw [this]
  simp only [oneOfD, ha]; rfl
 | row hg hc =>
  rename_i id ver cs
  refine ⟨_, by simp only [indexAddrA, intOf?, vint, ht, he]; rw [if_pos ⟨hs.symm, h0⟩], ?_⟩
  simp only [loadA, he, hs, hg, if_true]
  have hcs : cs[i]? = some (vint (l.getD i 0 : Nat)) := by
   have : (cs.take l.length)[i]? = some (vint (l.getD i 0 : Nat)) := by rw [hc]; simp [nats, hi]
   rwa [List.getElem?_take_of_lt hi] at this
  have : takeExact 1 (0 + (i : Int).toNat * 1) cs = some [vint (l.getD i 0 : Nat)] := by
   apply take1
   rw [show 0 + (i : Int).toNat * 1 = i by simp]
   exact hcs
  rw [this]
  simp only [oneOf, ha]; rfl
end
end Go.Dv
