/- A part of the proof of InferUses, second form: for every input of bulk at most 1048576 the call returns true and the arguments read as they did. Its condition: that bulk. -/
import Derived.Test.YtanhfhjoeoinoaaGreatDoorU05
/- Ranges over functions are sound. -/
namespace Go.Dv
section
variable {C : Ctx} {X : Fr} {n : Nat} {m m' : Nat → Nat → Option Nat} {I I' : Nat → Prop} {w w' : World} {h h' : Hp} {lm lm' lme : Nat → Option Nat} {L L' : Loc} {σ σ₁ σ₂ σ₃ : St} {a : Act} {tmps : Array Value}
theorem assignP_len : ∀ {ps : List Nat} {vs : List AV} {env env' : Env}, assignP n ps vs env = some env' → vs.length = ps.length
 | [], [], _, _, _ => rfl
 | [], _ :: _, _, _, h => by simp [assignP] at h
 | _ :: _, [], _, _, h => by simp [assignP] at h
 | p :: ps, v :: vs, env, env', h => by
  simp only [assignP] at h
  split at h
  ·simp [assignP_len h]
  ·cases h
theorem assignP_rel : ∀ {ps : List Nat} {vs : List AV} {us : List Value} {env env' : Env} {tmps : Array Value}, assignP n ps vs env = some env' → URels m I w vs us → n ≤ tmps.size →
  (∀ t x, env t = some x → URel m I w x (tmps.getD t undef)) →
  n ≤ ((ps.zip us).foldl (fun tmps (p : Nat × Value) => tmps.setIfInBounds p.1 p.2) tmps).size ∧
   ∀ t x, env' t = some x → URel m I w x (((ps.zip us).foldl (fun tmps (p : Nat × Value) => tmps.setIfInBounds p.1 p.2) tmps).getD t undef)
 | [], [], us, env, env', tmps, h, hu, hn, he => by
  simp [assignP] at h; subst h
  exact ⟨by simpa using hn, fun t x hx => by simpa using he t x hx⟩
 | [], _ :: _, _, _, _, _, h, _, _, _ => by simp [assignP] at h
 | _ :: _, [], _, _, _, _, h, _, _, _ => by simp [assignP] at h
 | p :: ps, v :: vs, us, env, env', tmps, h, hu, hn, he => by
  simp only [assignP] at h
  split at h
  ·rename_i hp
   match us, hu with
   | u :: us, hu =>
    have h0 := hu.2 0 v u rfl rfl
    have hr : URels m I w vs us := ⟨by have := hu.1; simpa using this, fun i x y hx hy => hu.2 (i + 1) x y (by simpa using hx) (by simpa using hy)⟩
    simp only [List.zip_cons_cons, List.foldl_cons]
    refine assignP_rel h hr (by simpa using hn) fun t x hx => ?_
    simp only [upd] at hx
    have hpt : p < tmps.size := Nat.lt_of_lt_of_le hp hn
    split at hx
    ·rename_i ht; subst ht
     simp at hx; subst hx
     simpa [Array.getD_eq_getD_getElem?, hpt] using h0
    ·rename_i ht
     have := he t x hx
     simp only [Array.getD_eq_getD_getElem?, Array.getElem?_setIfInBounds] at this ⊢
     rw [if_neg (fun h => ht h.symm)]
     exact this
   | [], hu => simp [URels] at hu
  ·cases h
theorem Step.toEmpty (st : Step m I w h lm L m' I' w' h' lm' L') : Step m I w h lm L m' I' w' h' lm' emptyLoc :=
 ⟨st.mle, st.sub, st.wle, st.frame, st.newI, st.newT, fun b hb => absurd hb (notLoc_empty _ b)⟩
/-- A loop's record in the world. -/
theorem loop_at {id l : Nat} {rec : LoopR} (hR : Rel m I w C h) (hg : h.get id = some (.loop rec)) (hl : m id 0 = some l) :
  ∃ (fn : FuncId) (tmps : Array Value) (dfs : Nat), w.heap[l]? = some (.loop { state := rec.state, pending := rec.pending, fn := fn, tmps := tmps, params := rec.params, assign := rec.assign, body := rec.body, defers := dfs }) ∧
   rec.n ≤ tmps.size ∧ (∀ s x, rec.env.lookup s = some x → URel m I w x (tmps.getD s undef)) := by
 obtain ⟨b, hb, _, ho⟩ := hR.obj id _ hg
 have hb' : m id 0 = some b := hb
 rw [hl] at hb'; cases hb'
 exact ho
/-- The record is written anew. -/
theorem SRel.setLoop {id l : Nat} {rec : LoopR} {st : LoopState} {pd : Option Code} (hS : SRel C n m I w lm σ tmps) (hg : σ.h.get id = some (.loop rec)) (hl : m id 0 = some l) :
  ∃ (fn : FuncId) (tm : Array Value) (dfs : Nat), w.heap[l]? = some (.loop { state := rec.state, pending := rec.pending, fn := fn, tmps := tm, params := rec.params, assign := rec.assign, body := rec.body, defers := dfs }) ∧
   let o : Go.Obj := .loop { state := st, pending := pd, fn := fn, tmps := tm, params := rec.params, assign := rec.assign, body := rec.body, defers := dfs }
   SRel C n m I (setBlk w l o) lm { σ with h := σ.h.set id (.loop { rec with state := st, pending := pd }) } tmps ∧
   Step m I w σ.h lm σ.loc m I (setBlk w l o) (σ.h.set id (.loop { rec with state := st, pending := pd })) lm σ.loc := by
 obtain ⟨fn, tm, dfs, hh, hn, he⟩ := loop_at hS.rel hg hl
 refine ⟨fn, tm, dfs, hh, ?_⟩
 have hbs : bsize w l = none := by simp [bsize, hh]
 have hlt := lt_of_some hh
 refine SRel.reset hS hg hl rfl rfl hbs ⟨fn, tm, dfs, setBlk_at hlt, hn, fun s x hx => ?_⟩
 have hkI : Keeps I w (setBlk w l (.loop { state := st, pending := pd, fn := fn, tmps := tm, params := rec.params, assign := rec.assign, body := rec.body, defers := dfs })) := fun b hb => setBlk_other (fun h => by
  have := hS.rel.imm b hb; rw [h, hbs] at this; cases this)
 exact (he s x hx).mono (MLe.refl m) (fun _ h => h) (WLe.setBlk hbs) hkI
theorem DfOK.put {lo : Lo} {d : Option Tmp} {v : Value} (hd : DfOK lo m w h lm L a.defers) : DfOK lo m w h lm L (a.put d v).defers := by rw [put_defers]; exact hd
theorem run_getLoop {P : Program} {l : Nat} {r : Loop} (hb : w.heap[l]? = some (.loop r)) : (Instr.getLoop l).run P w = .ok r w := by
 have h1 : (getObj l).run P w = .ok (.loop r) w := by simp [getObj, Sem.run, hb]
 simp [Instr.getLoop, h1]
theorem snd_opsYield {ops : Array Oper} {i : Nat} {is : List Nat} {o : Oper} {id : Nat} {args : List AV} {rec rec₁ rec₂ : LoopR} {env : Env} {e : Ex} {σ₄ : St}
  (ho : ops[i]? = some o) (hg : wantedA ops σ.env o = some true) (hcall : callOf C σ.env o = some (.yield id args))
  (hr : σ.h.get id = some (.loop rec)) (hp : assignP rec.n rec.params.toList args (envOf rec.env) = some env)
  (h1 : SndCode C ⟨rec.fn, rec.n, C.A rec.fn, some id⟩ rec.assign ⟨env, emptyLoc, σ.h⟩ .normal σ₁)
  (hr1 : σ₁.h.get id = some (.loop rec₁)) (hs : rec₁.state = .ready)
  (h2 : SndCode C ⟨rec.fn, rec.n, C.A rec.fn, some id⟩ rec.body ⟨σ₁.env, σ₁.loc, σ₁.h.set id (.loop { rec₁ with state := .busy })⟩ e σ₂)
  (hr2 : σ₂.h.get id = some (.loop rec₂))
  (ha : putV X.A X.n o.dst { σ with h := σ₂.h.set id (.loop { rec₂ with state := if e = .normal then .ready else .done, pending := e.code }) } (vbool (e = .normal)) = some σ₃)
  (h3 : SndOps C X ops is σ₃ σ₄) : SndOps C X ops (i :: is) σ σ₄ := by
 intro l lo m I w lm a Q hro hS hd hQ
 simp only [wpOpsIn, ho, wanted_rel hS hg, if_true]
 obtain ⟨l0, vs, hl0, hu, hrun⟩ := yield_op (r := (fenceOf l).round) hS hcall
 obtain ⟨fn, tm, dfs, hh, hn, he⟩ := loop_at hS.rel hr hl0
 have hlen : vs.length = rec.params.size := by have := assignP_len hp; have := hu.1; simp at *; omega
 have hyield : (Instr.yield l0 ⟨vs⟩).run C.P w = .ok (.round l0 fn ((rec.params.toList.zip vs).foldl (fun tmps (p : Nat × Value) => tmps.setIfInBounds p.1 p.2) tm) rec.assign rec.body) w := by
  have hsz : (⟨vs⟩ : Array Value).size = rec.params.size := hlen
  have hz : (rec.params.zip ⟨vs⟩).foldl (fun tmps (p : Nat × Value) => tmps.setIfInBounds p.1 p.2) tm = (rec.params.toList.zip vs).foldl (fun tmps (p : Nat × Value) => tmps.setIfInBounds p.1 p.2) tm := by
   rw [← Array.foldl_toList, Array.toList_zip]
  simp only [Instr.yield, Sem.run_bind, run_getLoop hh, Result.andThen_ok, hsz, ne_eq, not_true_eq_false, if_false, Sem.run_pure]
  rw [← hz]
 refine ⟨fun _ _ => trivial, ?_⟩
 rw [hrun, hyield]
 refine ⟨fun h => by simp [fenceOf, Fence.wide] at h, ?_⟩
 refine roundIn_of_wpIn (F := fenceOf l) trivial ?_
 obtain ⟨hsz, henv⟩ := assignP_rel hp hu hn (fun t x hx => he t x hx)
 have hS0 : SRel C rec.n m I w lm0 ⟨env, emptyLoc, σ.h⟩ ((rec.params.toList.zip vs).foldl (fun tmps (p : Nat × Value) => tmps.setIfInBounds p.1 p.2) tm) :=
  ⟨hS.rel, ⟨fun k cs hcs => by simp [emptyLoc] at hcs, fun k k' b hk => by simp [emptyLoc] at hk⟩, hsz, fun t x hx => .inr (henv t x hx)⟩
 refine h1 (some l0) ⟨w.heap.size, []⟩ m I w lm0 _ _ hl0 hS0 DfOK.nil fun m1 I1 w1 lm1 a1 hS1 st1 hd1 => ?_
 obtain ⟨fn1, tm1, dfs1, hh1, hS2, st2⟩ := hS1.setLoop (st := .busy) (pd := rec₁.pending) hr1 (st1.mle _ _ _ hl0)
 refine ⟨setBlk w1 l0 (.loop { state := .busy, pending := rec₁.pending, fn := fn1, tmps := tm1, params := rec₁.params, assign := rec₁.assign, body := rec₁.body, defers := dfs1 }), ?_, ?_⟩
 ·simp only [Instr.beginRound, Sem.run_bind, run_getLoop hh1, Result.andThen_ok, run_setObj hh1 (fun _ _ _ h => by cases h), hs, Sem.run_pure]
 refine h2 (some l0) ⟨w.heap.size, []⟩ m1 I1 _ lm1 a1 _ (st1.mle _ _ _ hl0) hS2 (hd1.step st2) fun m3 I3 w3 lm3 a3 hS3 st3 hd3 => ?_
 have hm3 : m3 id 0 = some l0 := st3.mle _ _ _ (st1.mle _ _ _ hl0)
 obtain ⟨fn3, tm3, dfs3, hh3, hS4, st4⟩ := hS3.setLoop (st := if e = .normal then .ready else .done) (pd := e.code) hr2 hm3
 have st := ((st1.trans st2).trans st3).trans st4
 obtain ⟨hS5, st5⟩ := hS.called hS4.rel st.toEmpty
 have hend : ∀ jump, jump = e.code → (Instr.endRound l0 jump).run C.P w3 = .ok (.bool (e = .normal)) (setBlk w3 l0 (.loop { state := if e = .normal then .ready else .done, pending := e.code, fn := fn3, tmps := tm3, params := rec₂.params, assign := rec₂.assign, body := rec₂.body, defers := dfs3 })) := by
  rintro _ rfl
  simp only [Instr.endRound, Sem.run_bind, run_getLoop hh3, Result.andThen_ok, run_setObj hh3 (fun _ _ _ h => by cases h), Sem.run_pure]
  cases e <;> rfl
 obtain ⟨I6, hS6, st6⟩ := putV_sound (a := a) (v := .bool (e = .normal)) hS5 (.inr (.d _ _ (.bool _))) ha
 have st56 := st5.trans st6
 have hd6 := (hd.step st56).put (d := o.dst) (v := .bool (e = .normal))
 have key := h3 l _ _ _ _ _ _ Q (hro.mono st56.mle) hS6 hd6 (fun _ _ _ _ _ hS7 st7 hd7 => hQ _ _ _ _ _ hS7 (st56.trans st7) hd7)
 cases e with
 | normal => exact ⟨_, _, hend none rfl, key⟩
 | ret => exact ⟨_, _, hend (some .ret) rfl, key⟩
 | exit i => exact ⟨_, _, hend (some (.exit i)) rfl, key⟩
end
end Go.Dv
/- The statement that ranges over a function; the theorem. -/
namespace Go.Dv
section
variable {C : Ctx} {X : Fr} {n : Nat} {m m' : Nat → Nat → Option Nat} {I I' : Nat → Prop} {w w' : World} {h h' : Hp} {lm lm' lme : Nat → Option Nat} {L L' : Loc} {σ σ₁ σ₂ σ₃ : St} {a : Act} {tmps : Array Value}
/-- Entering: the loop's record lies at the world's end. -/
theorem enter_loop {lo : Lo} {l : Option Nat} {fn : FuncId} {env : List (Nat × AV)} {ps : Array Tmp} {assign body : Code} (hS : SRel C X.n m I w lm σ a.tmps) (hro : RoundOk m X.round l)
  (hrd : ∀ id, X.round = some id → ∃ l, σ.h.get id = some (.loop l)) (hd : DfOK lo m w σ.h lm σ.loc a.defers) (hE : EnvLe (envOf env) σ.env) (hL : ∀ t x, env.lookup t = some x → x.isL = false) :
  ∃ (l1 : Nat) (mark : List Deferred) (w1 : World), (Instr.enterLoop fn a.tmps ps assign body l).run C.P w = .ok (l1, mark) w1 ∧
   SRel C X.n (updM m σ.h.next 0 l1) I w1 lm { σ with h := σ.h.alloc (.loop (loopOf X env ps assign body)) } a.tmps ∧
   Step m I w σ.h lm σ.loc (updM m σ.h.next 0 l1) I w1 (σ.h.alloc (.loop (loopOf X env ps assign body))) lm σ.loc ∧
   DfOK lo (updM m σ.h.next 0 l1) w1 (σ.h.alloc (.loop (loopOf X env ps assign body))) lm σ.loc (mark ++ a.defers) := by
 have hdone : ∀ (dfs : Nat) (w0 : World), GrowI I w I w0 → let go : Go.Obj := .loop { state := .ready, pending := none, fn := fn, tmps := a.tmps, params := ps, assign := assign, body := body, defers := dfs }
   SRel C X.n (updM m σ.h.next 0 w0.heap.size) I (w0.alloc go) lm { σ with h := σ.h.alloc (.loop (loopOf X env ps assign body)) } a.tmps ∧
   Step m I w σ.h lm σ.loc (updM m σ.h.next 0 w0.heap.size) I (w0.alloc go) (σ.h.alloc (.loop (loopOf X env ps assign body))) lm σ.loc := by
  intro dfs w0 g0 go
  have hS0 := hS.grow g0
  have g1 := GrowI.alloc I w0 go
  have hfree := hS0.free_new
  have hS1 := hS0.grow g1
  have hlt : w0.heap.size < (w0.alloc go).heap.size := by rw [alloc_size]; omega
  refine ⟨SRel.newObj hS1 (b := w0.heap.size) (o := .loop (loopOf X env ps assign body)) hlt ⟨hfree.i, hfree.t, hfree.l⟩ rfl ⟨fn, a.tmps, dfs, alloc_new w0 _, hS.size, fun s x hx => ?_⟩,
   Step.newObj hS (g0.trans g1) g0.wle.size⟩
  exact (((hS1.env s x (hE s x hx)).toU (hL s x hx))).monoM (updM_le (.inl (hS.rel.fr1 _ _ (Nat.le_refl _))))
 cases l with
 | none =>
  have g0 := GrowI.alloc I w (.deferred (some []))
  obtain ⟨h1, h2⟩ := hdone w.heap.size (w.alloc (.deferred (some []))) g0
  refine ⟨_, [{ target := .collected w.heap.size, args := #[] }], _, ?_, h1, h2, ?_⟩
  ·simp only [Instr.enterLoop, Sem.run_bind, run_newObj, Result.andThen_ok, Sem.run_pure]
   rfl
  ·obtain ⟨ms, hms, hd⟩ := hd
   have hd1 := hd.step h2
   have hsz : (w.alloc (.deferred (some []))).heap.size = w.heap.size + 1 := alloc_size w _
   refine ⟨{ target := .collected w.heap.size, args := #[] } :: ms, by rw [hms]; rfl, hd1.le, fun d hm => ?_, ?_⟩
   ·simp only [List.mem_cons] at hm
    rcases hm with rfl | hm
    ·refine ⟨w.heap.size, hd.le, rfl, ?_, ?_, ?_⟩
     ·rw [alloc_old _ _ (by rw [hsz]; omega)]; exact alloc_new w _
     ·rintro ⟨id, o, ho, hb⟩
      simp only [Hp.alloc, upd] at ho
      unfold updM at hb
      split at ho
      ·rename_i hi; subst hi
       simp at ho; subst ho
       simp [Obj.ver] at hb
      ·rename_i hi
       rw [if_neg (fun hc => hi hc.1)] at hb
       exact absurd (hS.rel.mlt _ _ _ hb) (by omega)
     ·rintro ⟨k, hk, hb⟩
      obtain ⟨cs, hcs⟩ := Option.isSome_iff_exists.1 hk
      obtain ⟨b', hb', hlt, _⟩ := hS.loc.obj k cs hcs
      rw [hb] at hb'; cases hb'; omega
    ·exact hd1.all d hm
   ·simp only [List.pairwise_cons]
    refine ⟨fun d hm heq => ?_, hd.nd⟩
    obtain ⟨b, _, ht, hb, _⟩ := hd.all d hm
    have := lt_of_some hb
    rw [ht] at heq
    injection heq with heq
    omega
 | some l0 =>
  have hX : ∃ id, X.round = some id ∧ m id 0 = some l0 := by
   cases hx : X.round with
   | none => rw [hx] at hro; exact hro.elim
   | some id => rw [hx] at hro; exact ⟨id, rfl, hro⟩
  obtain ⟨id, hX, hm0⟩ := hX
  obtain ⟨rec, hrec⟩ := hrd id hX
  obtain ⟨fn0, tm0, dfs0, hh0, _⟩ := loop_at hS.rel hrec hm0
  obtain ⟨h1, h2⟩ := hdone dfs0 w (GrowI.refl I w)
  refine ⟨_, [], _, ?_, h1, h2, by simpa using hd.step h2⟩
  simp only [Instr.enterLoop, Sem.run_bind, run_getLoop hh0, run_newObj, Result.andThen_ok, Sem.run_pure]
  rfl
theorem snd_rangeFunc {g : Operand} {ps : Array Tmp} {assign body : Code} {fv v : AV} {f : FuncId} {args : List AV} {env : List (Nat × AV)} {rec : LoopR} {e : Ex}
  (hg : rho C σ.env g = some fv) (hrd : ∀ id, X.round = some id → ∃ l, σ.h.get id = some (.loop l)) (hN : PlainNames C)
  (hv : callValA fv [.yld σ.h.next] = some (.call f args)) (hE : EnvLe (envOf env) σ.env) (hL : ∀ t x, env.lookup t = some x → x.isL = false)
  (hc : SndCall C f args (σ.h.alloc (.loop (loopOf X env ps assign body))) v h')
  (hr : h'.get σ.h.next = some (.loop rec)) (hs : rec.state ≠ .busy) (hp : rec.pending = e.code) :
  SndCode C X (.rangeFunc g ps assign body) σ e { σ with h := h'.del σ.h.next } := by
 intro l lo m I w lm a Q hro hS hd hQ
 refine wpIn_rangeFunc fun fn _ => ?_
 obtain ⟨l1, mark, w1, hent, hS1, st1, hd1⟩ := enter_loop (fn := fn) (ps := ps) (assign := assign) (body := body) hS hro hrd hd hE hL
 have hmy : updM m σ.h.next 0 l1 σ.h.next 0 = some l1 := by simp [updM]
 have hfv : VRel (updM m σ.h.next 0 l1) I w1 lm fv (a.eval g) := hS1.rho hg
 obtain ⟨vs, d, hu, hdv, hinv⟩ := callVal_run (P := C.P) (vs := [.func (.yield l1) #[] #[]]) hfv ⟨rfl, fun i x y hx hy => by
  match i, hx, hy with
  | 0, hx, hy => simp at hx hy; subst hx; subst hy; exact .yld _ _ hmy⟩ hv
 obtain ⟨⟨fn', c', hf', hb'⟩, hcalls⟩ := hc
 refine ⟨l1, mark, w1, d, w1, f, ⟨vs⟩, w1, hent, ?_, fun _ _ => trivial, by rw [hinv, run_callFunc hf' (hN _ _ hf') hb'], fun h => by simp [fenceOf, Fence.wide] at h, ?_⟩
 ·simp only [resolve, rangeCall]
  simpa [Act.eval] using hdv
 refine hcalls _ _ _ _ _ hS1.rel hu fun m2 I2 w2 r hR2 hv2 st2 => ?_
 obtain ⟨hS3, st3⟩ := hS1.called hR2 st2
 have hm2 : m2 σ.h.next 0 = some l1 := st2.mle _ _ _ hmy
 obtain ⟨fn3, tm3, dfs3, hh3, _, _⟩ := loop_at hR2 hr hm2
 have hbs : bsize w2 l1 = none := by simp [bsize, hh3]
 have hfree := hS3.forgotten (id := σ.h.next) hr hm2
 have hS4 := SRel.wild (w' := setBlk w2 l1 (.loop { state := .exhausted, pending := rec.pending, fn := fn3, tmps := tm3, params := rec.params, assign := rec.assign, body := rec.body, defers := dfs3 })) (hS3.forget σ.h.next) hfree (WLe.setBlk hbs) (fun x hx _ => setBlk_other hx)
 have st4 : Step m2 I2 w2 h' lm σ.loc m2 I2 (setBlk w2 l1 (.loop { state := .exhausted, pending := rec.pending, fn := fn3, tmps := tm3, params := rec.params, assign := rec.assign, body := rec.body, defers := dfs3 })) (h'.del σ.h.next) lm σ.loc := by
  refine ⟨MLe.refl _, fun _ h => h, WLe.setBlk hbs, fun b hb ht _ => setBlk_other (fun hbl => ht ⟨_, _, hr, hbl ▸ hm2⟩), fun _ h => .inl h, fun b hb => ?_, fun _ h => .inl h⟩
  obtain ⟨i, o, ho, hm⟩ := hb
  simp only [Hp.del, Dv.del] at ho
  split at ho
  ·cases ho
  ·exact .inl ⟨i, o, ho, hm⟩
 have st34 := st3.trans st4
 have hd4 := hd1.step st34
 have key := hQ _ _ _ _ { a with defers := mark ++ a.defers } hS4 (st1.trans st34) hd4
 have hns : (rec.state == LoopState.busy) = false := by
  cases hst : rec.state <;> first | rfl | exact absurd hst hs
 refine ⟨rec.pending, setBlk w2 l1 (.loop { state := .exhausted, pending := rec.pending, fn := fn3, tmps := tm3, params := rec.params, assign := rec.assign, body := rec.body, defers := dfs3 }), ?_, ?_⟩
 ·simp only [Instr.endLoop, Sem.run_bind, run_getLoop hh3, Result.andThen_ok, hns, Bool.false_eq_true, if_false, run_setObj hh3 (fun _ _ _ h => by cases h), Sem.run_pure]
 ·rw [hp] at key ⊢
  cases e with
  | normal => exact key
  | ret => exact wpIn_ret key
  | exit i => exact wpIn_exit key
def SndTask (C : Ctx) : Task → Res → Prop
 | .code X c σ, .code e σ' => SndCode C X c σ e σ'
 | .rounds X c σ, .code e σ' => SndRounds C X c σ e σ'
 | .ops X ops l σ, .code e σ' => e = .normal ∧ SndOps C X ops l σ σ'
 | .call f args h, .ret v h' => SndCall C f args h v h'
 | _, _ => False
structure Sound (C : Ctx) (Or : FuncId → List AV → Hp → AV → Hp → Prop) (Xo : FuncId → List AV → AV → Prop) : Prop where
 c : COk C
 e : EOk C
 names : PlainNames C
 mixed : C.P.follows .mixedOrders = true
 oracle : ∀ f args h v h', Or f args h v h' → SndCall C f args h v h'
 ext : ∀ f args v, Xo f args v → SndExt C f args v
/-- WHAT THE ABSTRACT MACHINE COMPUTES, THE MODEL's MACHINE COMPUTES. -/
theorem Big.snd {Or : FuncId → List AV → Hp → AV → Hp → Prop} {Xo : FuncId → List AV → AV → Prop} (hs : Sound C Or Xo) {t : Task} {r : Res} (hb : Big C Or Xo t r) : SndTask C t r := by
 induction hb with
 | skip => exact snd_skip
 | label => exact snd_label
 | exit => exact snd_exit
 | ret => exact snd_ret
 | @seq X a b σ σ₁ r h1 h2 ih1 ih2 =>
  cases r with
  | code e σ' => exact snd_seq ih1 ih2
  | ret v h => exact ih2.elim
 | seqX h1 he ih1 => exact snd_seqX ih1 he
 | @cond X c a b σ t r hc h ih =>
  cases r with
  | code e σ' => exact snd_cond hc ih
  | ret v h => exact ih.elim
 | block h ih => exact snd_block ih
 | scope h ih => exact snd_scope ih
 | @forget X c σ E L r hE hL h ih =>
  cases r with
  | code e σ' => exact snd_forget hE hL ih
  | ret v h => exact ih.elim
 | @forgetR X c σ E L r hE hL h ih =>
  cases r with
  | code e σ' => exact snd_forgetR hE hL ih
  | ret v h => exact ih.elim
 | @loop X c σ r h ih =>
  cases r with
  | code e σ' => exact snd_loop ih
  | ret v h => exact ih.elim
 | @rounds X c σ σ₁ r h1 h2 ih1 ih2 =>
  cases r with
  | code e σ' => exact snd_rounds ih1 ih2
  | ret v h => exact ih2.elim
 | roundsX h1 he ih1 => exact snd_roundsX ih1 he
 | region h hE ih => exact snd_region ih.2 hE
 | drawn h0 h hE ih => exact snd_drawn hs.mixed h0 (fun t => (ih t).2) hE
 | opsNil => exact ⟨rfl, snd_opsNil⟩
 | @opsNone X ops i l σ r ho h ih =>
  cases r with
  | code e σ' => exact ⟨ih.1, snd_opsNone ho ih.2⟩
  | ret v h => exact ih.elim
 | @opsOff X ops i l σ o E r ho hg hE h ih =>
  cases r with
  | code e σ' => exact ⟨ih.1, snd_opsOff ho hg hE ih.2⟩
  | ret v h => exact ih.elim
 | @opsOp X ops i l σ o eff σ₁ r ho hg he ha h ih =>
  cases r with
  | code e σ' => exact ⟨ih.1, snd_opsOp hs.c hs.e ho hg he ha ih.2⟩
  | ret v h => exact ih.elim
 | @opsCall X ops i l σ o f args v h' σ₁ r ho hg hcall hc ha h ihc ih =>
  cases r with
  | code e σ' => exact ⟨ih.1, snd_opsCall hs.names ho hg hcall ihc ha ih.2⟩
  | ret v h => exact ih.elim
 | @opsExt X ops i l σ o f args v σ₁ r ho hg hcall hx ha h ih =>
  cases r with
  | code e σ' => exact ⟨ih.1, snd_opsExt ho hg hcall (hs.ext _ _ _ hx) ha ih.2⟩
  | ret v h => exact ih.elim
 | @opsConv X ops i l σ o src dst x id off ver σ₁ r ho hg hop hx hc ha h ih =>
  cases r with
  | code e σ' => exact ⟨ih.1, snd_opsConv hs.c ho hg hop hx hc ha ih.2⟩
  | ret v h => exact ih.elim
 | @opsStr X ops i l σ o c id off ver n s σ₁ r ho hg hop hcal hx hs2 ha h ih =>
  cases r with
  | code e σ' => exact ⟨ih.1, snd_opsStr hs.c ho hg hop hcal hx hs2 ha ih.2⟩
  | ret v h => exact ih.elim
 | @opsYield X ops i l σ o id args rec env σ₁ rec₁ e σ₂ rec₂ σ₃ r ho hg hcall hr hp h1 hr1 hst h2 hr2 ha h ih1 ih2 ih =>
  cases r with
  | code e' σ' => exact ⟨ih.1, snd_opsYield ho hg hcall hr hp ih1 hr1 hst ih2 hr2 ha ih.2⟩
  | ret v h => exact ih.elim
 | rangeFunc hg hro hv hE hL hc hr hst hp ihc => exact snd_rangeFunc hg hro hs.names hv hE hL ihc hr hst hp
 | call hf hb h1 he hr ih => exact snd_call hs.c hf hb ih he hr
 | callD hD h0 hcap h1 he hr ih0 ih1 => exact snd_callD hs.c hs.e hs.names hD ih0 hcap ih1 he hr
 | closed h1 hv ha ih => exact snd_closed ih hv ha
 | oracle ho => exact hs.oracle _ _ _ _ _ ho
end
end Go.Dv
/- An evaluator of the abstract machine: tries for slots and heap. -/
namespace Go.Dv
inductive Tr (α : Type) where
 | nil
 | node (l : Tr α) (v : Option α) (r : Tr α)
section
variable {α : Type}
def Tr.get : Tr α → Nat → Option α
 | .nil, _ => none
 | .node l v r, k => match k with
  | 0 => v
  | k + 1 => cond (Nat.beq (k % 2) 0) (l.get (k / 2)) (r.get (k / 2))
def Tr.put : Nat → Tr α → Nat → Option α → Tr α
 | 0, t, _, _ => t
 | f + 1, .nil, k, o => match k with
  | 0 => .node .nil o .nil
  | k + 1 => cond (Nat.beq (k % 2) 0) (.node (put f .nil (k / 2) o) none .nil) (.node .nil none (put f .nil (k / 2) o))
 | f + 1, .node l v r, k, o => match k with
  | 0 => .node l o r
  | k + 1 => cond (Nat.beq (k % 2) 0) (.node (put f l (k / 2) o) v r) (.node l v (put f r (k / 2) o))
def Tr.bindT (g : α → Option α) : Tr α → Tr α
 | .nil => .nil
 | .node l v r => .node (l.bindT g) (v.bind g) (r.bindT g)
theorem beq0 (n : Nat) : Nat.beq n 0 = decide (n = 0) := by cases n <;> rfl
theorem lt_of_blt {a b : Nat} (h : Nat.blt a b = true) : a < b := Nat.le_of_ble_eq_true h
theorem Tr.get_nil (k : Nat) : (Tr.nil : Tr α).get k = none := rfl
theorem Tr.get_put : ∀ (f : Nat) (t : Tr α) (k : Nat) (o : Option α) (j : Nat), k + 1 < 2 ^ f → (Tr.put f t k o).get j = if j = k then o else t.get j := by
 intro f
 induction f with
 | zero => intro t k o j h; simp at h
 | succ f ih =>
  intro t k o j h
  have key : ∀ (l r : Tr α) (v : Option α), (match k with
   | 0 => Tr.node l o r
   | k + 1 => cond (Nat.beq (k % 2) 0) (.node (put f l (k / 2) o) v r) (.node l v (put f r (k / 2) o))).get j = if j = k then o else (Tr.node l v r).get j := by
   intro l r v
   cases k with
   | zero =>
    cases j with
    | zero => rfl
    | succ j => simp [Tr.get]
   | succ k =>
    have hk : k / 2 + 1 < 2 ^ f := by rw [Nat.pow_succ] at h; omega
    cases j with
    | zero => cases hc : Nat.beq (k % 2) 0 <;> simp [Tr.get, hc]
    | succ j =>
     by_cases h1 : k % 2 = 0 <;> by_cases h2 : j % 2 = 0
     ·simp only [Tr.get, beq0, h1, h2, decide_true, cond_true, ih _ _ _ _ hk]
      have : j / 2 = k / 2 ↔ j + 1 = k + 1 := by omega
      simp only [this]
     ·simp only [Tr.get, beq0, h1, h2, decide_true, decide_false, cond_true, cond_false]
      rw [if_neg (by omega)]
     ·simp only [Tr.get, beq0, h1, h2, decide_true, decide_false, cond_true, cond_false]
      rw [if_neg (by omega)]
     ·simp only [Tr.get, beq0, h1, h2, decide_false, cond_false, ih _ _ _ _ hk]
      have : j / 2 = k / 2 ↔ j + 1 = k + 1 := by omega
      simp only [this]
  cases t with
  | nil =>
   have h1 := key .nil .nil none
   have h2 : (Tr.node (.nil : Tr α) none .nil).get j = (.nil : Tr α).get j := by
    cases j with
    | zero => rfl
    | succ j => simp only [Tr.get]; cases Nat.beq (j % 2) 0 <;> rfl
   rw [h2] at h1
   rw [← h1]
   cases k <;> rfl
  | node l v r =>
   rw [← key l r v]
   cases k <;> rfl
theorem Tr.get_bindT (g : α → Option α) : ∀ (t : Tr α) (k : Nat), (t.bindT g).get k = (t.get k).bind g
 | .nil, _ => rfl
 | .node l v r, k => by
  cases k with
  | zero => rfl
  | succ k =>
   simp only [Tr.bindT, Tr.get]
   cases Nat.beq (k % 2) 0
   ·exact Tr.get_bindT g r _
   ·exact Tr.get_bindT g l _
end
/-- How deep a trie may go: keys below. -/
def big : Nat := 1000000
def Tr.set {α : Type} (t : Tr α) (k : Nat) (o : Option α) : Tr α := t.put 20 k o
theorem Tr.get_set {α : Type} (t : Tr α) (k : Nat) (o : Option α) (h : Nat.blt k big = true) : (t.set k o).get = fun j => if j = k then o else t.get j := by
 funext j
 refine Tr.get_put 20 t k o j ?_
 have : k < big := lt_of_blt h
 simp [big] at this; omega
structure THp where
 next : Nat
 t : Tr Obj
 ty : Tr (TypeId × Nat) := .nil
 el : Tr TypeId := .nil
structure TSt where
 env : Tr AV
 loc : Tr (List AV)
 h : THp
def THp.to (h : THp) : Hp := ⟨h.next, h.t.get, h.ty.get, h.el.get⟩
def TSt.to (τ : TSt) : St := ⟨τ.env.get, τ.loc.get, τ.h.to⟩
def frzT : Nat → THp → AV → Option (DV × THp)
 | 0, _, _ => none
 | n + 1, h, x => match x with
  | .d y => some (y, h)
  | .agg cs => match frzLT (frzT n) h cs with
   | some (ds, h') => some (.agg ds, h')
   | none => none
  | .msl id off len ver sz => match Nat.blt id big, h.t.get id with
   | true, some (.cells cs v) => match Nat.beq v ver with
    | true => match takeExact (len * sz) off cs with
     | some r => match frzLT (frzT n) { h with t := h.t.set id none } r with
      | some (ds, h') => some (.imm ds len, h')
      | none => none
     | none => none
    | false => none
   | _, _ => none
  | _ => none
where frzLT (f : THp → AV → Option (DV × THp)) : THp → List AV → Option (List DV × THp)
 | h, [] => some ([], h)
 | h, x :: r => match f h x with
  | some (d, h') => match frzLT f h' r with
   | some (ds, h'') => some (d :: ds, h'')
   | none => none
  | none => none
def putVT (A : FAnn) (n : Nat) (dst : Option Nat) (τ : TSt) (v : AV) : Option TSt :=
 match dst with
 | none => some τ
 | some d => match Nat.blt d n && Nat.blt d big with
  | false => none
  | true => match A.frz.contains d with
   | true => match frzT 400 τ.h v with
    | some (x, h') => some { τ with env := τ.env.set d (some (.d x)), h := h' }
    | none => none
   | false => some { τ with env := τ.env.set d (some v) }
theorem upd_set {α : Type} {t : Tr α} {k : Nat} {v : α} (h : Nat.blt k big = true) : (t.set k (some v)).get = upd t.get k v := by
 rw [Tr.get_set t k _ h]; rfl
theorem del_set {α : Type} {t : Tr α} {k : Nat} (h : Nat.blt k big = true) : (t.set k none).get = del t.get k := by
 rw [Tr.get_set t k _ h]; rfl
/-- A new object. -/
def THp.alloc (h : THp) (o : Obj) : THp := { next := h.next + 1, t := h.t.set h.next (some o), ty := h.ty, el := h.el.set h.next none }
theorem THp.alloc_to {h : THp} {o : Obj} (hk : Nat.blt h.next big = true) : (h.alloc o).to = h.to.alloc o := by
 simp only [THp.to, THp.alloc, Hp.alloc, upd_set hk, del_set hk]
def THp.keepEl (h : THp) (id : Nat) (e : TypeId) : Tr TypeId :=
 match h.el.get id with
 | none => h.el.set id none
 | some e' => match Nat.beq e' e with
  | true => h.el
  | false => h.el.set id none
theorem THp.keepEl_to {h : THp} {id : Nat} {e : TypeId} (hk : Nat.blt id big = true) : (h.keepEl id e).get = h.to.keepEl id e := by
 have key : h.to.keepEl id e = if h.el.get id = some e then h.el.get else Dv.del h.el.get id := by unfold Hp.keepEl; rfl
 rw [key]
 unfold THp.keepEl
 split
 ·rename_i h0; simp [h0, del_set hk]
 ·rename_i e' h0
  split
  ·rename_i hb; have := Nat.eq_of_beq_eq_true hb; subst this; simp [h0]
  ·rename_i hb
   have hne : e' ≠ e := by rintro rfl; simp at hb
   rw [del_set hk, if_neg (by rw [h0]; simpa using hne)]
theorem frzT_spec : ∀ {k : Nat} {h h' : THp} {x : AV} {d : DV}, frzT k h x = some (d, h') → frzV k h.to x = some (d, h'.to)
 | 0, _, _, _, _, hf => by simp [frzT] at hf
 | k + 1, h, h', x, d, hf => by
  have rows : ∀ (xs : List AV) {h h' : THp} {ds : List DV}, frzT.frzLT (frzT k) h xs = some (ds, h') → frzL (frzV k) h.to xs = some (ds, h'.to) := by
   intro xs
   induction xs with
   | nil =>
    intro h h' ds hf
    simp only [frzT.frzLT, Option.some.injEq, Prod.mk.injEq] at hf
    obtain ⟨rfl, rfl⟩ := hf
    rfl
   | cons x xs ih =>
    intro h h' ds hf
    simp only [frzT.frzLT] at hf
    split at hf
    ·rename_i d1 h1 h1f
     split at hf
     ·rename_i ds1 h2 h2f
      simp only [Option.some.injEq, Prod.mk.injEq] at hf
      obtain ⟨rfl, rfl⟩ := hf
      simp only [frzL, frzT_spec h1f, ih h2f]
     ·cases hf
    ·cases hf
  simp only [frzT] at hf
  simp only [frzV]
  split at hf
  ·simp only [Option.some.injEq, Prod.mk.injEq] at hf
   obtain ⟨rfl, rfl⟩ := hf
   rfl
  ·split at hf
   ·rename_i ds h1 h1f
    simp only [Option.some.injEq, Prod.mk.injEq] at hf
    obtain ⟨rfl, rfl⟩ := hf
    simp only [rows _ h1f]
   ·cases hf
  ·rename_i id off len ver sz
   split at hf
   ·rename_i cs v hid hg
    split at hf
    ·rename_i hv
     have := Nat.eq_of_beq_eq_true hv
     subst this
     split at hf
     ·rename_i r hr
      split at hf
      ·rename_i ds h1 h1f
       simp only [Option.some.injEq, Prod.mk.injEq] at hf
       obtain ⟨rfl, rfl⟩ := hf
       have h2 := rows _ h1f
       have h3 : ({ h with t := h.t.set id none } : THp).to = h.to.del id := by simp only [THp.to, Hp.del, del_set hid]
       rw [h3] at h2
       have hg' : h.to.get id = some (.cells cs v) := hg
       simp only [hg', if_true, hr, h2]
      ·cases hf
     ·cases hf
    ·cases hf
   ·cases hf
  ·cases hf
theorem putVT_spec {A : FAnn} {n : Nat} {dst : Option Nat} {τ τ' : TSt} {v : AV} (h : putVT A n dst τ v = some τ') : putV A n dst τ.to v = some τ'.to := by
 unfold putVT at h
 unfold putV
 cases dst with
 | none => simp at h; subst h; rfl
 | some d =>
  simp only at h ⊢
  split at h
  ·cases h
  ·rename_i hd
   simp only [Bool.and_eq_true] at hd
   have hdn : d < n := lt_of_blt hd.1
   split at h
   ·rename_i hc
    have hm : d ∈ A.frz := by simpa using hc
    rw [if_pos hm]
    split at h
    ·rename_i x h' hf
     simp at h; subst h
     have := frzT_spec hf
     simp only [TSt.to, this, if_pos hdn, upd_set hd.2]
    ·cases h
   ·rename_i hc
    have hm : d ∉ A.frz := by simpa using hc
    rw [if_neg hm, if_pos hdn]
    simp at h; subst h
    simp only [TSt.to, upd_set hd.2]
end Go.Dv
/- The evaluator. -/
namespace Go.Dv
def okKey (k : Nat) : Bool := Nat.blt k big
def dropT (τ : TSt) (dst : Option Nat) : Option TSt :=
  match dst with
  | none => some τ
  | some d => match okKey d with
    | true => some { τ with env := τ.env.set d none }
    | false => none
def putDT (n : Nat) (env : Tr AV) (dst : Option Nat) (v : AV) : Option (Tr AV) :=
  match dst with
  | none => some env
  | some d => match Nat.blt d n && okKey d with
    | true => some (env.set d (some v))
    | false => none
def noKeyV (key : Nat) : AV → Option AV
  | .lptr k o => cond (Nat.beq k key) none (some (.lptr k o))
  | x => some x
def applyT (A : FAnn) (n : Nat) (dst : Option Nat) (τ : TSt) (eff : Eff) : Option TSt :=
  match eff with
  | .val v => putVT A n dst τ v
  | .skip => dropT τ dst
  | .newL cells => match dst with
    | some d => match Nat.blt d n && okKey d with
      | true => some { τ with env := (τ.env.bindT (noKeyV d)).set d (some (.lptr d 0)), loc := τ.loc.set d (some cells) }
      | false => none
    | none => none
  | .setL key cells => match okKey key, dropT τ dst with
    | true, some τ' => some { τ' with loc := τ.loc.set key (some cells) }
    | _, _ => none
  | .newCells cs len sz e => match okKey τ.h.next, putDT n τ.env dst (.msl τ.h.next 0 len 0 sz) with
    | true, some env => some { τ with env := env, h := { next := τ.h.next + 1, t := τ.h.t.set τ.h.next (some (.cells cs 0)), ty := τ.h.ty, el := τ.h.el.set τ.h.next (some e) } }
    | _, _ => none
  | .grow id cs ver v e => match okKey id with
    | true => putVT A n dst { τ with h := { next := τ.h.next, t := τ.h.t.set id (some (.cells cs ver)), ty := τ.h.ty, el := τ.h.keepEl id e } } v
    | false => none
  | .newVar cs t => match okKey τ.h.next, putDT n τ.env dst (.ptr τ.h.next 0 0) with
    | true, some e => some { τ with env := e, h := { τ.h.alloc (.cells cs 0) with ty := τ.h.ty.set τ.h.next (some (t, cs.length)) } }
    | _, _ => none
  | .newMap => match okKey τ.h.next, putDT n τ.env dst (.map τ.h.next) with
    | true, some e => some { τ with env := e, h := τ.h.alloc (.map []) }
    | _, _ => none
  | .setH id o none => match okKey id, dropT τ dst with
    | true, some τ' => some { τ' with h := { τ.h with t := τ.h.t.set id (some o) } }
    | _, _ => none
  | .setH id o (some v) => match okKey id with
    | true => putVT A n dst { τ with h := { τ.h with t := τ.h.t.set id (some o) } } v
    | false => none
  | _ => none
theorem dropT_spec {τ τ' : TSt} {dst : Option Nat} (h : dropT τ dst = some τ') : { τ.to with env := dropD τ.to.env dst } = τ'.to := by
  unfold dropT at h
  cases dst with
  | none => simp at h; subst h; rfl
  | some d =>
    simp only at h
    split at h
    · rename_i hk
      simp at h; subst h
      simp only [TSt.to, dropD, del_set hk]
    · cases h
theorem putDT_spec {n : Nat} {env env' : Tr AV} {dst : Option Nat} {v : AV} (h : putDT n env dst v = some env') : putD n env.get dst v = some env'.get := by
  unfold putDT at h
  unfold putD
  cases dst with
  | none => simp at h; subst h; rfl
  | some d =>
    simp only at h ⊢
    split at h
    · rename_i hk
      simp only [Bool.and_eq_true] at hk
      simp at h; subst h
      rw [if_pos (lt_of_blt hk.1), upd_set hk.2]
    · cases h
theorem noKey_get {d : Nat} {env : Tr AV} : (env.bindT (noKeyV d)).get = noKey d env.get := by
  funext t
  rw [Tr.get_bindT]
  unfold noKey
  cases hg : env.get t with
  | none => rfl
  | some x =>
    simp only [Option.bind_some]
    cases x <;> try rfl
    rename_i k o
    simp only [noKeyV]
    by_cases hk : k = d
    · subst hk; simp
    · have : Nat.beq k d = false := by cases hb : Nat.beq k d with
        | true => exact absurd (Nat.eq_of_beq_eq_true hb) hk
        | false => rfl
      rw [if_neg hk, this]; rfl
theorem applyT_spec {A : FAnn} {n : Nat} {dst : Option Nat} {τ τ' : TSt} {eff : Eff} (h : applyT A n dst τ eff = some τ') : applyEff A n dst τ.to eff = some τ'.to := by
  unfold applyT at h
  unfold applyEff
  split at h
  · exact putVT_spec h
  · exact congrArg some (dropT_spec h)
  · split at h
    · rename_i d
      split at h
      · rename_i hk
        simp only [Bool.and_eq_true] at hk
        simp at h; subst h
        simp only [if_pos (lt_of_blt hk.1), TSt.to, upd_set hk.2, noKey_get]
      · cases h
    · cases h
  · split at h
    · rename_i key cells _ _ τ₁ hk hd
      simp at h; subst h
      have := dropT_spec hd
      have h2 : τ₁.loc = τ.loc ∧ τ₁.h = τ.h := by
        unfold dropT at hd
        split at hd
        · simp at hd; subst hd; exact ⟨rfl, rfl⟩
        · split at hd
          · simp at hd; subst hd; exact ⟨rfl, rfl⟩
          · cases hd
      have h3 : dropD τ.to.env dst = τ₁.to.env := congrArg St.env this
      have h3' : dropD τ.env.get dst = τ₁.env.get := h3
      simp only [TSt.to, h3', upd_set hk, h2.2]
    · cases h
  · split at h
    · rename_i hk he
      simp at h; subst h
      have := putDT_spec he
      simp only [TSt.to, THp.to, this, Option.map_some, Hp.alloc, upd_set hk]
    · cases h
  · split at h
    · rename_i hk
      have := putVT_spec h
      simpa only [TSt.to, THp.to, Hp.set, upd_set hk, THp.keepEl_to hk] using this
    · cases h
  · split at h
    · rename_i hk he
      simp at h; subst h
      have := putDT_spec he
      simp only [TSt.to, THp.to, THp.alloc, this, Option.map_some, Hp.alloc, upd_set hk, del_set hk]
    · cases h
  · split at h
    · rename_i hk he
      simp at h; subst h
      have := putDT_spec he
      simp only [TSt.to, THp.to, THp.alloc, this, Option.map_some, Hp.alloc, upd_set hk, del_set hk]
    · cases h
  · split at h
    · rename_i id o _ _ τ₁ hk hd
      simp at h; subst h
      have := dropT_spec hd
      have h2 : τ₁.loc = τ.loc ∧ τ₁.h = τ.h := by
        unfold dropT at hd
        split at hd
        · simp at hd; subst hd; exact ⟨rfl, rfl⟩
        · split at hd
          · simp at hd; subst hd; exact ⟨rfl, rfl⟩
          · cases hd
      have h3 : dropD τ.to.env dst = τ₁.to.env := congrArg St.env this
      have h3' : dropD τ.env.get dst = τ₁.env.get := h3
      simp only [TSt.to, h3', THp.to, Hp.set, upd_set hk, h2.1]
    · cases h
  · split at h
    · rename_i id o v hk
      have := putVT_spec h
      simpa only [TSt.to, THp.to, Hp.set, upd_set hk] using this
    · cases h
  · cases h
inductive TTask where
  | code (X : Fr) (c : Code) (τ : TSt)
  | rounds (X : Fr) (c : Code) (τ : TSt)
  | call (f : FuncId) (args : List AV) (h : THp)
inductive TRes where
  | code (e : Ex) (τ : TSt)
  | ret (v : AV) (h : THp)
/-- What the evaluator is given: functions by number; functions without a body that are answered at once. -/
structure Kit where
  C : Ctx
  fn : FuncId → Option Func
  ext : FuncId → List AV → Option AV
  known : FuncId → List AV → Option AV := fun _ _ => none
  dfr : FuncId → Option (Code × Code × Nat × FuncId × Array Operand) := fun _ => none
variable (K : Kit) (rec : TTask → Option TRes)
def stateReady : LoopState → Bool
  | .ready => true
  | _ => false
def stateBusy : LoopState → Bool
  | .busy => true
  | _ => false
def Ex.isN : Ex → Bool
  | .normal => true
  | _ => false
def snap (env : Tr AV) : List Nat → List (Nat × AV)
  | [] => []
  | k :: r => match env.get k with
    | some x => match x.isL with
      | true => snap env r
      | false => (k, x) :: snap env r
    | none => snap env r
def trOf : List (Nat × AV) → Option (Tr AV)
  | [] => some .nil
  | (k, x) :: r => match okKey k, trOf r with
    | true, some t => some (t.set k (some x))
    | _, _ => none
def assignT (n : Nat) : List Nat → List AV → Tr AV → Option (Tr AV)
  | [], [], e => some e
  | p :: ps, v :: vs, e => match Nat.blt p n && okKey p with
    | true => assignT n ps vs (e.set p (some v))
    | false => none
  | _, _, _ => none
def callT (X : Fr) (τ : TSt) (o : Oper) : Option TSt :=
  match callOf K.C τ.env.get o with
  | some (.call f args) => match K.ext f args with
    | some v => putVT X.A X.n o.dst τ v
    | none => match K.known f args with
     | some v => putVT X.A X.n o.dst τ v
     | none => match (K.C.A f).closed && (allD args).isSome with
      | true => match rec (.call f args { next := 0, t := .nil }) with
        | some (.ret v _) => match deepV v with
          | true => putVT X.A X.n o.dst τ v
          | false => none
        | _ => none
      | false => match rec (.call f args τ.h) with
        | some (.ret v h') => putVT X.A X.n o.dst { τ with h := h' } v
        | _ => none
  | some (.yield id args) => match okKey id, τ.h.t.get id with
    | true, some (.loop r) => match trOf r.env with
      | some e0 => match assignT r.n r.params.toList args e0 with
        | some env => match rec (.code ⟨r.fn, r.n, K.C.A r.fn, some id⟩ r.assign ⟨env, .nil, τ.h⟩) with
          | some (.code .normal τ₁) => match τ₁.h.t.get id with
            | some (.loop r₁) => match stateReady r₁.state with
              | true => match rec (.code ⟨r.fn, r.n, K.C.A r.fn, some id⟩ r.body { τ₁ with h := { τ₁.h with t := τ₁.h.t.set id (some (.loop { r₁ with state := .busy })) } }) with
                | some (.code e τ₂) => match τ₂.h.t.get id with
                  | some (.loop r₂) => putVT X.A X.n o.dst { τ with h := { τ₂.h with t := τ₂.h.t.set id (some (.loop { r₂ with state := if e = .normal then .ready else .done, pending := e.code })) } } (vbool (e = .normal))
                  | _ => none
                | _ => none
              | false => none
            | _ => none
          | _ => none
        | none => none
      | none => none
    | _, _ => none
  | _ => none
def oneT (X : Fr) (ops : Array Oper) (o : Oper) (τ : TSt) : Option TSt :=
  match wantedA ops τ.env.get o with
  | none => none
  | some false => match putDT X.n τ.env o.dst (.tuple []) with
    | some e => some { τ with env := e }
    | none => none
  | some true => match o.op with
    | .call ⟨.value _, _, _⟩ => callT K rec X τ o
    | .call ⟨.builtin .unsafeString, args, ats⟩ => match opA K.C X.A (rho K.C τ.env.get) τ.loc.get τ.h.t.get o with
      | some eff => applyT X.A X.n o.dst τ eff
      | none => match evalArgs (rho K.C τ.env.get) args.toList with
        | some [.ptr id off ver, .d (.int .i64 n)] => match strP K.C τ.h.to ats id off ver n, okKey id with
          | some s, true => putVT X.A X.n o.dst { τ with h := { τ.h with t := τ.h.t.set id none } } (.d (.str s))
          | _, _ => none
        | _ => none
    | .convert src dst x => match opA K.C X.A (rho K.C τ.env.get) τ.loc.get τ.h.t.get o with
      | some eff => applyT X.A X.n o.dst τ eff
      | none => match rho K.C τ.env.get x with
        | some (.ptr id off ver) => match convP K.C τ.h.to src dst id off ver with
          | true => putVT X.A X.n o.dst τ (.ptr id off ver)
          | false => none
        | _ => none
    | _ => match opA K.C X.A (rho K.C τ.env.get) τ.loc.get τ.h.t.get o with
      | some eff => applyT X.A X.n o.dst τ eff
      | none => none
def opsT (X : Fr) (ops : Array Oper) : List Oper → TSt → Option TSt
  | [], τ => some τ
  | o :: r, τ => match oneT K rec X ops o τ with
    | some τ' => opsT X ops r τ'
    | none => none
/-- In a told order; the states ahead of each operation are kept. -/
def ordT (X : Fr) (ops : Array Oper) : List Nat → List TSt → TSt → Option (List TSt × TSt)
  | [], acc, τ => some (acc.reverse, τ)
  | i :: r, acc, τ => match ops[i]? with
    | some o => match oneT K rec X ops o τ with
      | some τ' => ordT X ops r (τ :: acc) τ'
      | none => none
    | none => none
def resT (C : Ctx) (τ : TSt) : ResultVar → Option AV
  | .tmp t => match τ.env.get t with
    | some v => match v.isL with
      | true => none
      | false => some v
    | none => none
  | .cell a t => match τ.env.get a with
    | some p => loadA C τ.loc.get τ.h.t.get t p
    | none => none
def argsT : Nat → List AV → Tr AV → Option (Tr AV)
  | _, [], t => some t
  | k, v :: r, t => match okKey k with
    | true => argsT (k + 1) r (t.set k (some v))
    | false => none
def findD (id : Nat) : List (Nat × DPlan) → Option DPlan
  | [] => none
  | (i, p) :: r => cond (Nat.beq i id) (some p) (findD id r)
/-- Slots that lead to these local variables are forgotten. -/
def dropKeys (ops : Array Oper) : List Nat → Tr AV → Tr AV
  | [], e => e
  | i :: r, e => match ops[i]? with
    | some o => match o.dst with
      | some d => dropKeys ops r (e.bindT (noKeyV d))
      | none => dropKeys ops r e
    | none => dropKeys ops r e
def roundT (X : Fr) (h : THp) : Bool :=
  match X.round with
  | none => true
  | some id => match h.t.get id with
    | some (.loop _) => true
    | _ => false
variable (chk : Fr → Array Oper → DPlan → List TSt → TSt → Bool)
def stepT (t : TTask) : Option TRes :=
  match t with
  | .code X c τ => match c with
    | .skip => some (.code .normal τ)
    | .label _ => some (.code .normal τ)
    | .exit id => some (.code (.exit id) τ)
    | .ret => some (.code .ret τ)
    | .seq a b => match rec (.code X a τ) with
      | some (.code .normal τ₁) => rec (.code X b τ₁)
      | some (.code e τ₁) => some (.code e τ₁)
      | _ => none
    | .cond c a b => match rho K.C τ.env.get c with
      | some (.d (.bool true)) => rec (.code X a τ)
      | some (.d (.bool false)) => rec (.code X b τ)
      | _ => none
    | .block id c => match rec (.code X c τ) with
      | some (.code e τ₁) => some (.code (e.out id) τ₁)
      | _ => none
    | .scope c => match rec (.code X c τ) with
      | some (.code e τ₁) => some (.code e τ₁)
      | _ => none
    | .loop c => rec (.rounds X c τ)
    | .region id ops draw => match draw with
      | false => match opsT K rec X ops ops.toList τ with
        | some τ₁ => some (.code .normal τ₁)
        | none => none
      | true => match findD id X.A.draws with
        | some pl => match ordT K rec X ops pl.ord [] { τ with env := dropKeys ops (pl.ord.take pl.nA) τ.env } with
          | some (tr, τ₁) => match chk X ops pl tr τ₁ with
            | true => some (.code .normal τ₁)
            | false => none
          | none => none
        | none => none
    | .rangeFunc g ps assign body => match rho K.C τ.env.get g, okKey τ.h.next && roundT X τ.h with
      | some fv, true => match callValA fv [.yld τ.h.next] with
        | some (.call f args) => match rec (.call f args (τ.h.alloc (.loop (loopOf X (snap τ.env X.A.keep) ps assign body)))) with
          | some (.ret _ h') => match h'.t.get τ.h.next with
            | some (.loop r) => match stateBusy r.state with
              | true => none
              | false => match r.pending with
                | none => some (.code .normal { τ with h := { h' with t := h'.t.set τ.h.next none } })
                | some (.exit id) => some (.code (.exit id) { τ with h := { h' with t := h'.t.set τ.h.next none } })
                | some .ret => some (.code .ret { τ with h := { h' with t := h'.t.set τ.h.next none } })
                | _ => none
            | _ => none
          | _ => none
        | _ => none
      | _, _ => none
    | _ => none
  | .rounds X c τ => match rec (.code X c τ) with
    | some (.code .normal τ₁) => rec (.rounds X c τ₁)
    | some (.code e τ₁) => some (.code e τ₁)
    | _ => none
  | .call f args h => match K.fn f with
    | some fn => match K.dfr f with
     | some (c0, c1, d, g, cap) => match argsT 0 args .nil, okKey d with
      | some env, true => match rec (.code ⟨f, fn.ntmps, K.C.A f, none⟩ c0 ⟨env, .nil, h⟩) with
        | some (.code .normal τ₀) => match evalArgs (rho K.C τ₀.env.get) cap.toList with
          | some cs => match rec (.code ⟨f, fn.ntmps, K.C.A f, none⟩ c1 { τ₀ with env := τ₀.env.set d (some (.clo g [] cs)) }) with
            | some (.code e τ) => match e with
              | .exit _ => none
              | _ => match allSome (fn.results.toList.map (resT K.C τ)) with
                | some vs => some (.ret (retA vs) τ.h)
                | none => none
            | _ => none
          | none => none
        | _ => none
      | _, _ => none
     | none => match fn.body with
      | some body => match argsT 0 args .nil with
        | some env => match rec (.code ⟨f, fn.ntmps, K.C.A f, none⟩ body ⟨env, .nil, h⟩) with
          | some (.code e τ) => match e with
            | .exit _ => none
            | _ => match allSome (fn.results.toList.map (resT K.C τ)) with
              | some vs => some (.ret (retA vs) τ.h)
              | none => none
          | _ => none
        | none => none
      | none => none
    | none => none
def ev : Nat → TTask → Option TRes
  | 0 => fun _ => none
  | n + 1 => stepT K (ev n) chk
end Go.Dv
/- What the evaluator tells is so. -/
namespace Go.Dv
def TTask.to : TTask → Task
 | .code X c τ => .code X c τ.to
 | .rounds X c τ => .rounds X c τ.to
 | .call f args h => .call f args h.to
def TRes.to : TRes → Res
 | .code e τ => .code e τ.to
 | .ret v h => .ret v h.to
section
variable {K : Kit} {rec : TTask → Option TRes} {Or : FuncId → List AV → Hp → AV → Hp → Prop} {Xo : FuncId → List AV → AV → Prop}
 {chk : Fr → Array Oper → DPlan → List TSt → TSt → Bool} {X : Fr} {ops : Array Oper} {τ τ' : TSt}
def Told (K : Kit) (Or : FuncId → List AV → Hp → AV → Hp → Prop) (Xo : FuncId → List AV → AV → Prop) (rec : TTask → Option TRes) : Prop :=
 ∀ t r, rec t = some r → Big K.C Or Xo t.to r.to
structure KitOk0 (K : Kit) (Or : FuncId → List AV → Hp → AV → Hp → Prop) (Xo : FuncId → List AV → AV → Prop) : Prop where
 fn : ∀ f fn, K.fn f = some fn → K.C.P.funcs[f]? = some fn
 ext : ∀ f args v, K.ext f args = some v → Xo f args v
 known : ∀ f args v, K.known f args = some v → (allD args).isSome = true ∧ deepV v = true ∧ ∃ h₀, Big K.C Or Xo (.call f args .empty) (.ret v h₀)
 dfr : ∀ f fn c0 c1 d g cap, K.fn f = some fn → K.dfr f = some (c0, c1, d, g, cap) → Deferring K.C f fn c0 c1 d g cap
structure KitOk (K : Kit) (Or : FuncId → List AV → Hp → AV → Hp → Prop) (Xo : FuncId → List AV → AV → Prop)
  (chk : Fr → Array Oper → DPlan → List TSt → TSt → Bool) : Prop extends KitOk0 K Or Xo where
 chk : ∀ rec X ops pl tr τ τ', Told K Or Xo rec → ordT K rec X ops pl.ord [] τ = some (tr, τ') → chk X ops pl tr τ' = true →
  ∀ t, Big K.C Or Xo (.ops X ops (Region.linearise .any ops t) τ.to) (.code .normal τ'.to)
theorem trOf_spec : ∀ {l : List (Nat × AV)} {t : Tr AV}, trOf l = some t → t.get = envOf l
 | [], t, h => by simp [trOf] at h; subst h; rfl
 | (k, x) :: r, t, h => by
  simp only [trOf] at h
  split at h
  ·rename_i t' hk ht
   simp at h; subst h
   rw [upd_set hk, trOf_spec ht]
   funext j
   simp only [upd, envOf, List.lookup_cons]
   by_cases hj : j = k
   ·subst hj; simp
   ·have : (j == k) = false := by simpa using hj
    rw [if_neg hj, this]
  ·cases h
theorem assignT_spec {n : Nat} : ∀ {ps : List Nat} {vs : List AV} {e e' : Tr AV}, assignT n ps vs e = some e' → assignP n ps vs e.get = some e'.get
 | [], [], e, e', h => by simp [assignT] at h; subst h; rfl
 | [], _ :: _, _, _, h => by simp [assignT] at h
 | _ :: _, [], _, _, h => by simp [assignT] at h
 | p :: ps, v :: vs, e, e', h => by
  simp only [assignT] at h
  split at h
  ·rename_i hk
   simp only [Bool.and_eq_true] at hk
   simp only [assignP, if_pos (lt_of_blt hk.1)]
   rw [← assignT_spec h, upd_set hk.2]
  ·cases h
theorem argsT_spec : ∀ {vs : List AV} {k : Nat} {t t' : Tr AV}, argsT k vs t = some t' → t'.get = fun j => if j < k then t.get j else match vs[j - k]? with | some v => some v | none => t.get j
 | [], k, t, t', h => by
  simp [argsT] at h; subst h
  funext j; simp
 | v :: vs, k, t, t', h => by
  simp only [argsT] at h
  split at h
  ·rename_i hk
   rw [argsT_spec h, upd_set hk]
   funext j
   simp only [upd]
   rcases Nat.lt_trichotomy j k with h1 | h1 | h1
   ·rw [if_pos (by omega), if_pos h1, if_neg (by omega)]
   ·subst h1; simp
   ·rw [if_neg (by omega), if_neg (by omega)]
    obtain ⟨i, rfl⟩ : ∃ i, j = k + 1 + i := ⟨j - (k + 1), by omega⟩
    have e1 : k + 1 + i - (k + 1) = i := by omega
    have e2 : k + 1 + i - k = i + 1 := by omega
    rw [e1, e2]
    simp only [List.getElem?_cons_succ]
    rw [if_neg (by omega)]
  ·cases h
theorem enterT_spec {args : List AV} {t : Tr AV} (h : argsT 0 args .nil = some t) : t.get = enterE args := by
 rw [argsT_spec h]
 funext j
 simp only [Nat.not_lt_zero, if_false, Nat.sub_zero, enterE]
 cases args[j]? <;> rfl
theorem stateReady_spec {s : LoopState} (h : stateReady s = true) : s = .ready := by cases s <;> first | rfl | cases h
theorem stateBusy_spec {s : LoopState} (h : stateBusy s = false) : s ≠ .busy := by cases s <;> first | (intro h'; cases h'; done) | cases h
/-- One operation, and the rest. -/
theorem callT_spec (hK : KitOk K Or Xo chk) (hrec : Told K Or Xo rec) {o : Oper} {i : Nat} {l : List Nat} {r : Res} (ho : ops[i]? = some o) (hg : wantedA ops τ.env.get o = some true)
  (h : callT K rec X τ o = some τ') (hr : Big K.C Or Xo (.ops X ops l τ'.to) r) : Big K.C Or Xo (.ops X ops (i :: l) τ.to) r := by
 unfold callT at h
 split at h
 ·rename_i f args hcall
  split at h
  ·rename_i v hx
   exact .opsExt (σ := τ.to) ho hg hcall (hK.ext _ _ _ hx) (putVT_spec h) hr
  ·split at h
   ·rename_i v hkn
    obtain ⟨h1, h2, h₀, h3⟩ := hK.known _ _ _ hkn
    exact .opsCall (σ := τ.to) ho hg hcall (.closed h3 h2 h1) (putVT_spec h) hr
   ·split at h
    ·rename_i hcl
     simp only [Bool.and_eq_true] at hcl
     split at h
     ·rename_i v h0 hc
      split at h
      ·rename_i hdv
       exact .opsCall (σ := τ.to) ho hg hcall (.closed (hrec _ _ hc) hdv hcl.2) (putVT_spec h) hr
      ·cases h
     ·cases h
    ·split at h
     ·rename_i v h' hc
      exact .opsCall (σ := τ.to) ho hg hcall (hrec _ _ hc) (putVT_spec h) hr
     ·cases h
 ·rename_i id args hcall
  split at h
  ·rename_i rc hid hget
   split at h
   ·rename_i e0 he0
    split at h
    ·rename_i env henv
     split at h
     ·rename_i τ₁ h1
      split at h
      ·rename_i rc1 hr1
       split at h
       ·rename_i hst
        split at h
        ·rename_i e τ₂ h2
         split at h
         ·rename_i rc2 hr2
          have hp := assignT_spec henv
          rw [trOf_spec he0] at hp
          have hb1 := hrec _ _ h1
          have hb2 := hrec _ _ h2
          have hpv := putVT_spec h
          simp only [TTask.to, TRes.to, TSt.to, THp.to, upd_set hid] at hb1 hb2 hpv
          exact .opsYield (σ := τ.to) (rec := rc) (rec₁ := rc1) (rec₂ := rc2) (σ₁ := τ₁.to) (σ₂ := τ₂.to) (σ₃ := τ'.to) ho hg hcall hget hp hb1 hr1 (stateReady_spec hst) hb2 hr2 hpv hr
         ·cases h
        ·cases h
       ·cases h
      ·cases h
     ·cases h
    ·cases h
   ·cases h
  ·cases h
 ·cases h
theorem oneT_spec (hK : KitOk K Or Xo chk) (hrec : Told K Or Xo rec) {o : Oper} {i : Nat} {l : List Nat} {r : Res} (ho : ops[i]? = some o)
  (h : oneT K rec X ops o τ = some τ') (hr : Big K.C Or Xo (.ops X ops l τ'.to) r) : Big K.C Or Xo (.ops X ops (i :: l) τ.to) r := by
 unfold oneT at h
 split at h
 ·cases h
 ·rename_i hw
  split at h
  ·rename_i e he
   simp at h; subst h
   exact .opsOff (σ := τ.to) ho hw (putDT_spec he) hr
  ·cases h
 ·rename_i hw
  split at h
  ·exact callT_spec hK hrec ho hw h hr
  ·rename_i args ats hop
   split at h
   ·rename_i eff he
    exact .opsOp (σ := τ.to) ho hw he (applyT_spec h) hr
   ·split at h
    ·rename_i id off ver n hx
     split at h
     ·rename_i s hs hk
      have := putVT_spec h
      simp only [TSt.to, THp.to, del_set hk] at this
      exact .opsStr (σ := τ.to) ho hw hop rfl hx hs this hr
     ·cases h
    ·cases h
  ·rename_i src dst x hop
   split at h
   ·rename_i eff he
    exact .opsOp (σ := τ.to) ho hw he (applyT_spec h) hr
   ·split at h
    ·rename_i id off ver hx
     split at h
     ·rename_i hc
      exact .opsConv (σ := τ.to) ho hw hop hx hc (putVT_spec h) hr
     ·cases h
    ·cases h
  ·split at h
   ·rename_i eff he
    exact .opsOp (σ := τ.to) ho hw he (applyT_spec h) hr
   ·cases h
theorem opsT_spec (hK : KitOk K Or Xo chk) (hrec : Told K Or Xo rec) : ∀ {l : List Oper} {k : Nat} {τ τ' : TSt}, (∀ (j : Nat) (o : Oper), l[j]? = some o → ops[k + j]? = some o) →
  opsT K rec X ops l τ = some τ' → Big K.C Or Xo (.ops X ops (List.range' k l.length) τ.to) (.code .normal τ'.to)
 | [], k, τ, τ', _, h => by simp [opsT] at h; subst h; exact .opsNil
 | o :: l, k, τ, τ', hl, h => by
  simp only [opsT] at h
  split at h
  ·rename_i τ₁ h1
   have ih := opsT_spec hK hrec (l := l) (k := k + 1) (fun j o' hj => by
    have := hl (j + 1) o' (by simpa using hj)
    rw [show k + 1 + j = k + (j + 1) by omega]; exact this) h
   simp only [List.length_cons, List.range'_succ]
   exact oneT_spec hK hrec (hl 0 o rfl) h1 ih
  ·cases h
theorem resT_spec {C : Ctx} {τ : TSt} (r : ResultVar) : resT C τ r = resA C τ.to r := by
 cases r with
 | tmp t =>
  simp only [resT, resA]
  cases h : τ.env.get t with
  | none => simp only [TSt.to, h]
  | some v => simp only [TSt.to, h]; cases v.isL <;> rfl
 | cell a t => rfl
theorem snap_spec {env : Tr AV} : ∀ {l : List Nat} {t : Nat} {x : AV}, (snap env l).lookup t = some x → env.get t = some x ∧ x.isL = false
 | [], t, x, h => by simp [snap] at h
 | k :: l, t, x, h => by
  simp only [snap] at h
  split at h
  ·rename_i y hy
   split at h
   ·exact snap_spec h
   ·rename_i hl
    simp only [List.lookup_cons] at h
    split at h
    ·rename_i hk
     simp at h hk; subst h; subst hk
     exact ⟨hy, hl⟩
    ·exact snap_spec h
  ·exact snap_spec h
theorem roundT_spec {X : Fr} {h : THp} (hr : roundT X h = true) {id : Nat} (hid : X.round = some id) : ∃ l, h.to.get id = some (.loop l) := by
 unfold roundT at hr
 rw [hid] at hr
 simp only at hr
 split at hr
 ·rename_i l hl; exact ⟨l, hl⟩
 ·cases hr
theorem noKeyV_some {d : Nat} {x y : AV} (h : noKeyV d x = some y) : y = x ∧ ∀ o, y ≠ .lptr d o := by
 cases x <;> simp only [noKeyV, Option.some.injEq] at h <;> try (subst h; exact ⟨rfl, fun o h => by cases h⟩)
 rename_i k o
 cases hb : Nat.beq k d with
 | true => rw [hb] at h; cases h
 | false =>
  rw [hb] at h; simp at h; subst h
  refine ⟨rfl, fun o' h => ?_⟩
  cases h; simp at hb
theorem dropKeys_le : ∀ (l : List Nat) (e : Tr AV), EnvLe (dropKeys ops l e).get e.get
 | [], e => fun _ _ h => h
 | i :: r, e => by
  intro t x h
  simp only [dropKeys] at h
  split at h
  ·split at h
   ·have := dropKeys_le r _ t x h
    rw [Tr.get_bindT] at this
    cases hg : e.get t with
    | none => rw [hg] at this; cases this
    | some v => rw [hg] at this; rw [(noKeyV_some this).1]
   ·exact dropKeys_le r _ t x h
  ·exact dropKeys_le r _ t x h
theorem stepT_spec (hK : KitOk K Or Xo chk) (hrec : Told K Or Xo rec) : Told K Or Xo (stepT K rec chk) := by
 intro t r h
 unfold stepT at h
 split at h
 ·rename_i X c τ
  split at h
  ·simp at h; subst h; exact .skip
  ·simp at h; subst h; exact .label
  ·simp at h; subst h; exact .exit
  ·simp at h; subst h; exact .ret
  ·skip
   rename_i a b
   split at h
   ·rename_i τ₁ h1
    exact .seq (hrec _ _ h1) (hrec _ _ h)
   ·rename_i e τ₁ hne h1
    simp at h; subst h
    exact .seqX (hrec _ _ h1) (fun he => hne he)
   ·cases h
  ·rename_i c a b
   split at h
   ·rename_i hc; exact .cond (t := true) hc (hrec _ _ h)
   ·rename_i hc; exact .cond (t := false) hc (hrec _ _ h)
   ·cases h
  ·split at h
   ·rename_i h1
    simp at h; subst h
    exact .block (hrec _ _ h1)
   ·cases h
  ·split at h
   ·rename_i h1
    simp at h; subst h
    exact .scope (hrec _ _ h1)
   ·cases h
  ·exact .loop (hrec _ _ h)
  ·skip
   rename_i id ops draw
   split at h
   ·split at h
    ·rename_i τ₁ h1
     simp at h; subst h
     have := opsT_spec hK hrec (ops := ops) (k := 0) (fun j o hj => by simpa using hj) h1
     rw [← List.range_eq_range', show ops.toList.length = ops.size from rfl] at this
     exact .region (σ₁ := τ₁.to) this (fun _ _ h => h)
    ·cases h
   ·split at h
    ·rename_i pl _
     split at h
     ·rename_i tr τ₁ h1
      split at h
      ·rename_i hck
       simp at h; subst h
       exact .drawn (σ := τ.to) (E₀ := (dropKeys ops (pl.ord.take pl.nA) τ.env).get) (σ₁ := τ₁.to) (dropKeys_le _ _) (hK.chk _ _ _ _ _ _ _ hrec h1 hck) (fun _ _ h => h)
      ·cases h
     ·cases h
    ·cases h
  ·skip
   rename_i g ps assign body
   split at h
   ·rename_i fv hfv hkr
    simp only [Bool.and_eq_true] at hkr
    obtain ⟨hk, hrt⟩ := hkr
    split at h
    ·rename_i f args hcv
     split at h
     ·rename_i v h' hcall
      split at h
      ·rename_i rc hrc
       split at h
       ·cases h
       ·rename_i hb
        have hc := hrec _ _ hcall
        simp only [TTask.to, TRes.to, THp.alloc_to hk] at hc
        have key : ∀ e : Ex, rc.pending = e.code → Big K.C Or Xo (.code X (.rangeFunc g ps assign body) τ.to) (.code e { τ.to with h := h'.to.del τ.h.next }) := fun e he =>
         .rangeFunc (σ := τ.to) (fv := fv) (f := f) (args := args) (env := snap τ.env X.A.keep) (v := v) (h' := h'.to) (rec := rc) hfv (fun id hid => roundT_spec hrt hid) hcv (fun t x h => (snap_spec h).1) (fun t x h => (snap_spec h).2) hc hrc (stateBusy_spec hb) he
        split at h
        ·rename_i hp
         simp at h; subst h
         have := key .normal hp
         simpa only [TTask.to, TRes.to, TSt.to, THp.to, Hp.del, del_set hk] using this
        ·rename_i id hp
         simp at h; subst h
         have := key (.exit id) hp
         simpa only [TTask.to, TRes.to, TSt.to, THp.to, Hp.del, del_set hk] using this
        ·rename_i hp
         simp at h; subst h
         have := key .ret hp
         simpa only [TTask.to, TRes.to, TSt.to, THp.to, Hp.del, del_set hk] using this
        ·cases h
      ·cases h
     ·cases h
    ·cases h
   ·cases h
  ·cases h
 ·skip
  rename_i X c τ
  split at h
  ·rename_i τ₁ h1
   exact .rounds (hrec _ _ h1) (hrec _ _ h)
  ·rename_i e τ₁ hne h1
   simp at h; subst h
   exact .roundsX (hrec _ _ h1) (fun he => hne he)
  ·cases h
 ·skip
  rename_i f args hp
  split at h
  ·rename_i fn hfn
   split at h
   ·rename_i c0 c1 d g cap hdf
    have hD := hK.dfr _ _ _ _ _ _ _ hfn hdf
    split at h
    ·rename_i env henv hkd
     split at h
     ·rename_i τ₀ h0
      split at h
      ·rename_i cs hcs
       split at h
       ·rename_i e τ h1
        have hb0 := hrec _ _ h0
        have hb := hrec _ _ h1
        simp only [TTask.to, TRes.to, TSt.to, enterT_spec henv] at hb0
        simp only [TTask.to, TRes.to, TSt.to, upd_set hkd] at hb
        split at h
        ·cases h
        ·rename_i hne
         split at h
         ·rename_i vs hvs
          simp at h; subst h
          refine .callD (σ₀ := τ₀.to) (σ := τ.to) hD hb0 hcs hb ?_ ?_
          ·cases e with
           | normal => exact .inl rfl
           | ret => exact .inr rfl
           | exit id => exact absurd rfl (hne id)
          ·rw [← hvs]
           congr 1
           exact List.map_congr_left fun r _ => (resT_spec r).symm
         ·cases h
       ·cases h
      ·cases h
     ·cases h
    ·cases h
   ·split at h
    ·rename_i body hbody
     split at h
     ·rename_i env henv
      split at h
      ·rename_i e τ h1
       have hb := hrec _ _ h1
       simp only [TTask.to, TRes.to, TSt.to, enterT_spec henv] at hb
       have hfn' := hK.fn _ _ hfn
       split at h
       ·cases h
       ·rename_i hne
        split at h
        ·rename_i vs hvs
         simp at h; subst h
         refine .call (σ := τ.to) hfn' hbody hb ?_ ?_
         ·cases e with
          | normal => exact .inl rfl
          | ret => exact .inr rfl
          | exit id => exact absurd rfl (hne id)
         ·rw [← hvs]
          congr 1
          exact List.map_congr_left fun r _ => (resT_spec r).symm
        ·cases h
      ·cases h
     ·cases h
    ·cases h
  ·cases h
theorem ev_spec (hK : KitOk K Or Xo chk) : ∀ n, Told K Or Xo (ev K chk n)
 | 0 => fun t r h => by simp [ev] at h
 | n + 1 => stepT_spec hK (ev_spec hK n)
end
end Go.Dv
