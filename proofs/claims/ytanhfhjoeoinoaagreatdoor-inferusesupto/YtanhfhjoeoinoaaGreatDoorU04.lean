/- A part of the proof of InferUses, second form: for every input of bulk at most 1048576 the call returns true and the arguments read as they did. Its condition: that bulk. -/
import Derived.Test.YtanhfhjoeoinoaaGreatDoorU03
import Derived.Laws.BytesString
import Derived.IntWalk
import Derived.Lib.UnsafeStr
/- Operators, conversions, delete. -/
namespace Go.Dv
def kindOk : TypeDesc → TK → Bool
 | .int _, .int _ => true
 | .string, .string => true
 | .bool, .bool => true
 | _, _ => false
/-- What is asked of the types whose values are held against each other as structs. -/
def EOk (C : Ctx) : Prop := ∀ t ks, C.E t = some ks → C.P.eqGuardType C.P.depth t = false ∧ C.P.stoodInHeld t = false ∧
 ∃ fs, C.P.underlying t = some (.struct fs) ∧ fs.size = ks.length ∧ ∀ (i : Nat) f k, fs[i]? = some f → ks[i]? = some k → f.offset = i ∧ f.name ≠ "_" ∧ ∃ d, C.P.underlying f.type = some d ∧ kindOk d k = true
section
variable {C : Ctx} {A : FAnn} {n : Nat} {m m' : Nat → Nat → Option Nat} {I I' : Nat → Prop} {w w' : World} {lm lm' : Nat → Option Nat} {σ σ' : St} {tmps : Array Value} {a : Act}
theorem deleteA_run {ty t : TypeId} {at_ : Array TypeId} {mm k : AV} {eff : Eff} {mv kv : Value} (hC : COk C) (ht : at_[0]? = some t) (hS : SRel C n m I w lm σ a.tmps)
  (hm : VRel m I w lm mm mv) (hk : VRel m I w lm k kv) (he : deleteA C σ.h.get t mm k = some eff) :
  ∃ id es' w1, eff = .setH id (.map es') (some (.tuple [])) ∧ (Builtin.delete_ at_ ty #[mv, kv]).run C.P w = .ok (.tuple #[]) w1 ∧
   SRel C n m I w1 lm { σ with h := σ.h.set id (.map es') } a.tmps ∧ Step m I w σ.h lm σ.loc m I w1 (σ.h.set id (.map es')) lm σ.loc := by
 unfold deleteA at he
 split at he
 ·rename_i kt e _ _ _ _ id kd hti
  have hu := T_map hC hti
  split at he
  ·rename_i es hg
   split at he
   ·cases he
   ·rename_i hcond
    have hko : keyOk C kt kd = true := by simpa using hcond
    obtain ⟨d, hd, hkind⟩ := keyOk_spec hC hko
    split at he
    ·rename_i es' hdel
     simp only [Option.some.injEq] at he; subst he
     have hmu := hm.toU rfl
     cases mv with
     | map r =>
      cases hmu with
      | map _ b hb =>
       obtain ⟨b', hb', hni, ys, clock, hblk, hlen, hrel, hkeys⟩ := hS.rel.obj id _ hg
       simp only [Obj.ver] at hb'
       rw [hb] at hb'; cases hb'
       have hlt : b < w.heap.size := hS.rel.mlt _ _ _ hb
       have hbs : bsize w b = none := by unfold bsize; rw [hblk]
       have hck := checkKey_run C.P ys.isEmpty hd hkind hk.d
       have hdel' := delE_rel (m := m) hkind hk.d es ys.toList 0 es' hlen hrel hdel
       have hw := fun go => WLe.setBlk (o := go) hbs
       have hK : ∀ go, Keeps I w (setBlk w b go) := fun go y hy => setBlk_other (fun h => hni (h ▸ hy))
       have key : ∃ ys' : Array MapEntry, (Builtin.delete_ at_ ty #[.map (some b), kv]).run C.P w = .ok (.tuple #[]) (setBlk w b (.map ys' clock)) ∧ ys'.toList.length = es'.length ∧
         (∀ (i : Nat) p q, es'[i]? = some p → ys'.toList[i]? = some q → EntryRel m I w p q) ∧ ∀ z ∈ es', isKey z.1 = true := by
        rcases hdel' with ⟨h1, rfl⟩ | ⟨j, y, h1, h2, rfl⟩
        ·refine ⟨ys, ?_, hlen, hrel, hkeys⟩
         simp [Builtin.delete_, ht, run_underlying hu, run_getObj_map hblk, hck, Instr.findKey, run_underlying hd, h1, run_setObj hblk (fun _ _ _ h => by cases h)]
        ·have hj : j < ys.size := by have := (List.getElem?_eq_some_iff.1 h2).1; simpa using this
         refine ⟨ys.eraseIdxIfInBounds j, ?_, ?_, fun i p q hp hq => ?_, fun z hz => hkeys z (List.mem_of_mem_eraseIdx hz)⟩
         ·simp [Builtin.delete_, ht, run_underlying hu, run_getObj_map hblk, hck, Instr.findKey, run_underlying hd, h1, run_setObj hblk (fun _ _ _ h => by cases h)]
         ·simp [Array.eraseIdxIfInBounds, hj, List.length_eraseIdx, hlen.symm]
         ·simp only [Array.eraseIdxIfInBounds, hj, dif_pos, Array.toList_eraseIdx] at hq
          rw [List.getElem?_eraseIdx] at hp hq
          split at hp <;> split at hq <;> first | omega | exact hrel _ p q hp hq
       obtain ⟨ys', hrun, hlen', hrel', hkeys'⟩ := key
       obtain ⟨h1, h2⟩ := SRel.reset (go := .map ys' clock) (o' := .map es') hS hg hb rfl rfl hbs
        ⟨ys', clock, setBlk_at hlt, hlen', fun i p q hp hq => ⟨(hrel' i p q hp hq).1.mono (fun _ h => h) (hK _), (hrel' i p q hp hq).2.mono (MLe.refl m) (fun _ h => h) (hw _) (hK _)⟩, hkeys'⟩
       exact ⟨id, es', _, rfl, hrun, h1, h2⟩
     | _ => cases hmu
    ·cases he
  ·cases he
 ·cases he
theorem str_toList (s : List UInt8) : (⟨⟨s⟩⟩ : ByteArray).toList = s := by rw [ByteArray.toList_eq]
theorem intBin_rel {op : BinOp} {k : IntKind} {x y : Int} {r : AV} (t : TypeId) (hr : intBin op k x y = some r) :
  ∃ v, (binOp op t (.int k x) (.int k y)).run C.P w = .ok v w ∧ URel m I w r v := by
 cases op <;> simp only [intBin] at hr <;> (try (cases hr; done))
 case add => simp only [Option.some.injEq] at hr; subst hr; exact ⟨.int k (k.wrap (x + y)), by simp [binOp, Op.intArith], .d _ _ (.int _ _)⟩
 case sub => simp only [Option.some.injEq] at hr; subst hr; exact ⟨.int k (k.wrap (x - y)), by simp [binOp, Op.intArith], .d _ _ (.int _ _)⟩
 case mul => simp only [Option.some.injEq] at hr; subst hr; exact ⟨.int k (k.wrap (x * y)), by simp [binOp, Op.intArith], .d _ _ (.int _ _)⟩
 case quo =>
  split at hr
  ·cases hr
  ·rename_i h0
   simp only [Option.some.injEq] at hr; subst hr
   exact ⟨.int k (k.wrap (x.tdiv y)), by simp [binOp, Op.intDiv, h0], .d _ _ (.int _ _)⟩
 case rem =>
  split at hr
  ·cases hr
  ·rename_i h0
   simp only [Option.some.injEq] at hr; subst hr
   exact ⟨.int k (x.tmod y), by simp [binOp, Op.intDiv, h0], .d _ _ (.int _ _)⟩
 case and => simp only [Option.some.injEq] at hr; subst hr; exact ⟨_, by simp [binOp]; rfl, .d _ _ (.int _ _)⟩
 case or => simp only [Option.some.injEq] at hr; subst hr; exact ⟨_, by simp [binOp]; rfl, .d _ _ (.int _ _)⟩
 all_goals
  simp only [Option.some.injEq] at hr; subst hr
  exact ⟨_, by simp [binOp, Op.intCmp], .d _ _ (.bool _)⟩
theorem strBin_rel {op : BinOp} {x y : List UInt8} {r : AV} (t : TypeId) (hr : strBin op x y = some r) :
  ∃ v, (binOp op t (.string ⟨⟨x⟩⟩) (.string ⟨⟨y⟩⟩)).run C.P w = .ok v w ∧ URel m I w r v := by
 cases op <;> simp only [strBin] at hr <;> (try (cases hr; done))
 case add =>
  split at hr
  ·rename_i hl
   simp only [Option.some.injEq] at hr; subst hr
   refine ⟨.string (⟨⟨x⟩⟩ ++ ⟨⟨y⟩⟩), ?_, .d _ _ ?_⟩
   ·have hs : ∀ l : List UInt8, (⟨⟨l⟩⟩ : ByteArray).size = l.length := fun l => rfl
    have hmax : IntKind.i64.max = 9223372036854775807 := rfl
    have hno : ¬ (((x.length + y.length : Nat) : Int) > IntKind.i64.max) := by rw [hmax]; omega
    simp only [binOp, Op.stringOp, hs]
    rw [if_neg hno]
    rfl
   ·have : (⟨⟨x⟩⟩ ++ ⟨⟨y⟩⟩ : ByteArray) = ⟨⟨x ++ y⟩⟩ := by
     apply ByteArray.ext
     simp
    rw [this]; exact .str _
  ·cases hr
 all_goals
  simp only [Option.some.injEq] at hr; subst hr
  exact ⟨_, by simp [binOp, Op.stringOp, str_toList], .d _ _ (.bool _)⟩
theorem eqGuard_plain (op : BinOp) (t : TypeId) (x y : Operand) {va vb : Value} (h1 : va ≠ .nilIface ∨ vb ≠ .nilIface) (h2 : ∀ u v, ¬ (va = .agg u ∧ vb = .agg v)) :
  (eqGuard op t x y va vb).run C.P w = .ok () w := by
 unfold eqGuard
 cases op <;> simp only [Bool.not_true, Bool.not_false, Bool.false_eq_true, if_false, if_true] <;> (try rfl) <;>
  (cases va <;> cases vb <;> first | rfl | exact absurd ⟨rfl, rfl⟩ (h2 _ _) | simp at h1)
theorem scalEq_run {d : TypeDesc} {tk : TK} {k k' : DV} {v v' : Value} {b : Bool} {ft : TypeId} (N : Nat) (hu : C.P.underlying ft = some d) (hd : kindOk d tk = true) (hf : fitK tk k = true)
  (hk : DRel I w k v) (hk' : DRel I w k' v') (he : scalEq k k' = some b) : (Op.equalIn (N + 1) ft v v').run C.P w = .ok b w := by
 cases tk <;> cases k <;> simp [fitK] at hf <;> cases d <;> simp [kindOk] at hd <;> cases hk <;> cases hk' <;> simp only [scalEq] at he <;> (try (cases he; done))
 ·split at he
  ·rename_i hk; subst hk; simp at he; rw [run_equalIn_int w N ft _ _ _ _ hu, ← he]
  ·cases he
 ·simp at he
  rw [run_equalIn_string w N ft _ _ hu, ← he, str_toList, str_toList]
 ·simp at he
  rw [run_equalIn_bool' w N ft _ _ hu, ← he]
theorem run_part_one {P : Program} {t : TypeId} {d : TypeDesc} (h : P.underlying t = some d) (hd : isAggD d = false) {vs : Array Value} {off : Nat} {v : Value} (hv : vs[off]? = some v) :
  (part t vs off).run P w = .ok v w := by
 simp [part, run_isAgg_d w h, hd, hv]
theorem fitAll_len : ∀ {ks : List TK} {cs : List DV}, fitAll ks cs = true → cs.length = ks.length
 | [], [], _ => rfl
 | k :: r, x :: s, h => by simp [fitAll] at h; simp [fitAll_len h.2]
 | [], _ :: _, h => by simp [fitAll] at h
 | _ :: _, [], h => by simp [fitAll] at h
theorem eqFields_run (N : Nat) {us vs : List Value} : ∀ (ks : List TK) (fs : List Field) (k : Nat) (cs ds : List DV) (r : Bool), fs.length = ks.length → fitAll ks cs = true → ds.length = ks.length →
  (∀ (i : Nat) f t, fs[i]? = some f → ks[i]? = some t → f.offset = k + i ∧ f.name ≠ "_" ∧ ∃ d, C.P.underlying f.type = some d ∧ kindOk d t = true) →
  (∀ (i : Nat) x, cs[i]? = some x → ∃ y, us[k + i]? = some y ∧ DRel I w x y) → (∀ (i : Nat) x, ds[i]? = some x → ∃ y, vs[k + i]? = some y ∧ DRel I w x y) →
  scalsEq cs ds = some r → (Op.eqFields (N + 1) ⟨us⟩ ⟨vs⟩ fs).run C.P w = .ok r w
 | [], fs, k, cs, ds, r, h1, h2, h3, _, _, _, hr => by
  cases fs <;> simp at h1
  have := fitAll_len h2
  cases cs <;> simp at this
  cases ds <;> simp at h3
  simp [scalsEq] at hr; subst hr
  simp [Op.eqFields]
 | t :: ks, fs, k, cs, ds, r, h1, h2, h3, hf, hc, hd, hr => by
  cases fs with
  | nil => simp at h1
  | cons f fs =>
  cases cs with
  | nil => simp [fitAll] at h2
  | cons x cs =>
   cases ds with
   | nil => simp at h3
   | cons y ds =>
    simp only [fitAll, Bool.and_eq_true] at h2
    obtain ⟨ho, hn, d, hd1, hty⟩ := hf 0 f t rfl rfl
    obtain ⟨u, hu, hxu⟩ := hc 0 x rfl
    obtain ⟨v, hv, hyv⟩ := hd 0 y rfl
    simp only [Nat.add_zero] at ho hu hv
    have hag : isAggD d = false := by cases d <;> cases t <;> simp [kindOk] at hty <;> rfl
    have hp1 : (part f.type ⟨us⟩ f.offset).run C.P w = .ok u w := run_part_one hd1 hag (by rw [ho]; simpa using hu)
    have hp2 : (part f.type ⟨vs⟩ f.offset).run C.P w = .ok v w := run_part_one hd1 hag (by rw [ho]; simpa using hv)
    simp only [scalsEq] at hr
    cases hs : scalEq x y with
    | none => simp [hs] at hr
    | some b =>
     have heq := scalEq_run (C := C) (w := w) (I := I) N hd1 hty h2.1 hxu hyv hs
     simp only [Op.eqFields, if_pos hn, Sem.run_bind, hp1, Result.andThen_ok, hp2, heq]
     cases b with
     | false =>
      simp [hs] at hr; subst hr
      simp
     | true =>
      simp [hs] at hr
      simp only [Bool.not_true, Bool.false_eq_true, if_false]
      exact eqFields_run N ks fs (k + 1) cs ds r (by simpa using h1) h2.2 (by simpa using h3) (fun i g t' hg ht' => by
        obtain ⟨a1, a2, a3⟩ := hf (i + 1) g t' (by simpa using hg) (by simpa using ht')
        exact ⟨by omega, a2, a3⟩)
       (fun i z hz => by
        obtain ⟨q, hq, hr2⟩ := hc (i + 1) z (by simpa using hz)
        exact ⟨q, by rw [show k + 1 + i = k + (i + 1) by omega]; exact hq, hr2⟩)
       (fun i z hz => by
        obtain ⟨q, hq, hr2⟩ := hd (i + 1) z (by simpa using hz)
        exact ⟨q, by rw [show k + 1 + i = k + (i + 1) by omega]; exact hq, hr2⟩) hr
/-- A value held against nil. -/
theorem nil_equal {t : TypeId} {ti : TI} {p q : AV} {u v : Value} {b1 b2 : Bool} (hC : COk C) (ht : C.T t = some ti) (hp : VRel m I w lm p u) (hq : VRel m I w lm q v)
  (h1 : nilOf ti.k p = some b1) (h2 : nilOf ti.k q = some b2) (hor : (b1 || b2) = true) (N : Nat) : (Op.equalIn (N + 1) t u v).run C.P w = .ok (b1 && b2) w := by
 obtain ⟨d, hd, hk, _⟩ := (hC _ _ ht).und
 have hpv : ∀ {x : AV} {z : Value}, VRel m I w lm x z → (∀ e, ti.k = .pointer e → ∀ b, nilOf ti.k x = some b → ∃ a, z = .pointer a ∧ b = a.isNone) ∧
   (∀ e, ti.k = .slice e → ∀ b, nilOf ti.k x = some b → ∃ a l c, z = .slice a l c ∧ b = a.isNone) ∧
   (∀ e f, ti.k = .map e f → ∀ b, nilOf ti.k x = some b → ∃ a, z = .map a ∧ b = a.isNone) ∧
   (ti.k = .func → ∀ b, nilOf ti.k x = some b → (z = .nilFunc ∧ b = true) ∨ (∃ f g h, z = .func f g h) ∧ b = false) ∧
   (ti.k = .iface → ∀ b, nilOf ti.k x = some b → (z = .nilIface ∧ b = true) ∨ (∃ f g, z = .iface f g) ∧ b = false) := by
  intro x z hx
  refine ⟨fun e he b hb => ?_, fun e he b hb => ?_, fun e f he b hb => ?_, fun he b hb => ?_, fun he b hb => ?_⟩ <;> rw [he] at hb <;> unfold nilOf at hb <;> split at hb <;> simp at hb <;> (try (rename_i hh _; cases hh; done)) <;> subst hb <;> (try (rename_i hh; cases hh; done))
  ·have := hx.d; cases this; exact ⟨none, rfl, rfl⟩
  ·obtain ⟨a, _, rfl, _⟩ := hx.iptrV; exact ⟨some a, rfl, rfl⟩
  ·obtain ⟨b, _, rfl⟩ := hx.ptrV; exact ⟨_, rfl, rfl⟩
  ·obtain ⟨b, _, rfl⟩ := hx.lptrV; exact ⟨_, rfl, rfl⟩
  ·have := hx.nilsV; subst this; exact ⟨_, _, _, rfl, rfl⟩
  ·obtain ⟨a, cap, _, rfl, _⟩ := hx.immV; exact ⟨_, _, _, rfl, rfl⟩
  ·obtain ⟨b, cap, _, _, rfl, _⟩ := hx.mslV; exact ⟨_, _, _, rfl, rfl⟩
  ·have := hx.d; cases this; exact ⟨none, rfl, rfl⟩
  ·have := hx.toU rfl; cases this; exact ⟨_, rfl, rfl⟩
  ·have := hx.d; cases this; exact .inl ⟨rfl, rfl⟩
  ·have := hx.d; cases this; exact .inr ⟨⟨_, _, _, rfl⟩, rfl⟩
  ·have := hx.toU rfl; cases this; exact .inr ⟨⟨_, _, _, rfl⟩, rfl⟩
  ·have := hx.toU rfl; cases this; exact .inr ⟨⟨_, _, _, rfl⟩, rfl⟩
  ·have := hx.d; cases this; exact .inl ⟨rfl, rfl⟩
  ·have := hx.d; cases this; exact .inr ⟨⟨_, _, rfl⟩, rfl⟩
  ·have := hx.toU rfl; cases this; exact .inr ⟨⟨_, _, rfl⟩, rfl⟩
 cases htk : ti.k with
 | pointer e =>
  rw [htk] at hk
  obtain ⟨a1, rfl, rfl⟩ := (hpv hp).1 e htk b1 h1
  obtain ⟨a2, rfl, rfl⟩ := (hpv hq).1 e htk b2 h2
  cases d <;> simp [KOk] at hk
  cases a1 <;> cases a2 <;> simp at hor <;> simp [Op.equalIn, run_underlying hd]
 | slice e =>
  rw [htk] at hk
  obtain ⟨a1, _, _, rfl, rfl⟩ := (hpv hp).2.1 e htk b1 h1
  obtain ⟨a2, _, _, rfl, rfl⟩ := (hpv hq).2.1 e htk b2 h2
  cases d <;> simp [KOk] at hk
  cases a1 <;> cases a2 <;> simp at hor <;> simp [Op.equalIn, run_underlying hd]
 | map e f =>
  rw [htk] at hk
  obtain ⟨a1, rfl, rfl⟩ := (hpv hp).2.2.1 e f htk b1 h1
  obtain ⟨a2, rfl, rfl⟩ := (hpv hq).2.2.1 e f htk b2 h2
  cases d <;> simp [KOk] at hk
  cases a1 <;> cases a2 <;> simp at hor <;> simp [Op.equalIn, run_underlying hd]
 | func =>
  rw [htk] at hk
  cases d <;> simp [KOk] at hk
  rcases (hpv hp).2.2.2.1 htk b1 h1 with ⟨rfl, rfl⟩ | ⟨⟨_, _, _, rfl⟩, rfl⟩ <;> rcases (hpv hq).2.2.2.1 htk b2 h2 with ⟨rfl, rfl⟩ | ⟨⟨_, _, _, rfl⟩, rfl⟩ <;> simp at hor <;> simp [Op.equalIn, run_underlying hd]
 | iface =>
  rw [htk] at hk
  cases d <;> simp [KOk] at hk
  rcases (hpv hp).2.2.2.2 htk b1 h1 with ⟨rfl, rfl⟩ | ⟨⟨_, _, rfl⟩, rfl⟩ <;> rcases (hpv hq).2.2.2.2 htk b2 h2 with ⟨rfl, rfl⟩ | ⟨⟨_, _, rfl⟩, rfl⟩ <;> simp at hor <;> simp [Op.equalIn, run_underlying hd]
 | _ => rw [htk] at h1; simp [nilOf] at h1
end
end Go.Dv
/- Every operation but a call. -/
namespace Go.Dv
section
variable {C : Ctx} {A : FAnn} {n : Nat} {m m' : Nat → Nat → Option Nat} {I I' : Nat → Prop} {w w' : World} {lm lm' : Nat → Option Nat} {σ σ' : St} {tmps : Array Value} {a : Act}
theorem ofConst_nil {x : Operand} (h : isNilConst x = true) : ∃ v, x = .const v ∧ (v = .pointer none ∨ v = .slice none 0 0 ∨ v = .map none ∨ v = .nilFunc ∨ v = .nilIface) := by
 unfold isNilConst at h
 split at h <;> first | (cases h; done) | exact ⟨_, rfl, by simp⟩
/-- A value that is told equal by its type alone. -/
def byType : Value → Bool
 | .int _ _ | .string _ | .float _ _ | .complex _ _ _ => false
 | _ => true
theorem binOp_eq {op : BinOp} (hop : op = .eql ∨ op = .neq) {t : TypeId} {u v : Value} (hu : byType u = true) {b : Bool} (he : (Op.equalIn 10000 t u v).run C.P w = .ok b w) :
  (binOp op t u v).run C.P w = .ok (.bool (if op = .eql then b else !b)) w := by
 rcases hop with rfl | rfl
 ·have : binOp .eql t u v = (do pure (.bool (← Op.equal t u v)) : Sem Value) := by
   unfold binOp
   split <;> first | rfl | (simp [byType] at hu; done) | simp_all
  rw [this]
  simp [Op.equal, Op.maxDepth, he]
 ·have : binOp .neq t u v = (do pure (.bool (!(← Op.equal t u v))) : Sem Value) := by
   unfold binOp
   split <;> first | rfl | (simp [byType] at hu; done) | simp_all
  rw [this]
  simp [Op.equal, Op.maxDepth, he]
theorem nilOf_byType {k : TK} {p : AV} {v : Value} {b : Bool} (h : nilOf k p = some b) (hp : VRel m I w lm p v) : byType v = true ∧ ∀ u, v ≠ .agg u := by
 unfold nilOf at h
 split at h <;> (try (cases h; done))
 ·have := hp.d; cases this; exact ⟨rfl, by simp⟩
 ·obtain ⟨a, _, rfl, _⟩ := hp.iptrV; exact ⟨rfl, by simp⟩
 ·obtain ⟨b, _, rfl⟩ := hp.ptrV; exact ⟨rfl, by simp⟩
 ·obtain ⟨b, _, rfl⟩ := hp.lptrV; exact ⟨rfl, by simp⟩
 ·have := hp.nilsV; subst this; exact ⟨rfl, by simp⟩
 ·obtain ⟨a, cap, _, rfl, _⟩ := hp.immV; exact ⟨rfl, by simp⟩
 ·obtain ⟨b, cap, _, _, rfl, _⟩ := hp.mslV; exact ⟨rfl, by simp⟩
 ·have := hp.d; cases this; exact ⟨rfl, by simp⟩
 ·have := hp.toU rfl; cases this; exact ⟨rfl, by simp⟩
 ·have := hp.d; cases this; exact ⟨rfl, by simp⟩
 ·have := hp.d; cases this; exact ⟨rfl, by simp⟩
 ·have := hp.toU rfl; cases this; exact ⟨rfl, by simp⟩
 ·have := hp.toU rfl; cases this; exact ⟨rfl, by simp⟩
 ·have := hp.d; cases this; exact ⟨rfl, by simp⟩
 ·have := hp.d; cases this; exact ⟨rfl, by simp⟩
 ·have := hp.toU rfl; cases this; exact ⟨rfl, by simp⟩
theorem eqGuard_const (op : BinOp) (t : TypeId) {x y : Operand} {va vb : Value} (hc : (isNilConst x || isNilConst y) = true) (h2 : ∀ u, va ≠ .agg u) :
  (eqGuard op t x y va vb).run C.P w = .ok () w := by
 have hnil : (eqGuard op t x y .nilIface .nilIface).run C.P w = .ok () w := by
  rw [Bool.or_eq_true] at hc
  rcases hc with hc | hc <;> obtain ⟨v, rfl, _⟩ := ofConst_nil hc <;> cases op <;> simp [eqGuard]
 cases va with
 | agg u => exact absurd rfl (h2 u)
 | nilIface =>
  cases vb with
  | nilIface => exact hnil
  | _ => exact eqGuard_plain op t x y (.inr (by simp)) (by simp)
 | _ => exact eqGuard_plain op t x y (.inl (by simp)) (by simp)
theorem T_bool (hC : COk C) {t : TypeId} {sz : Nat} {ag : Bool} {by_ : Nat} {z : List DV} (hti : C.T t = some { k := .bool, size := sz, agg := ag, bytes := by_, zero := z }) :
  C.P.underlying t = some .bool := by
 obtain ⟨d, hd, hk, _⟩ := (hC _ _ hti).und
 cases d with
 | bool => exact hd
 | _ => simp [KOk] at hk
theorem equalIn_ptr {P : Program} {w : World} (n : Nat) {t e : TypeId} {ie : TypeInfo} (hd : P.underlying t = some (.pointer e)) (hie : P.info? e = some ie) (ad : Addr) :
  (Op.equalIn (n + 1) t (.pointer (some ad)) (.pointer (some ad))).run P w = .ok true w := by
 simp only [Op.equalIn, Sem.run_bind, run_underlying hd, Result.andThen_ok, run_sizeOf_i w hie]
 by_cases h0 : ie.size = 0
 ·simp [h0]
 ·simp [h0, sameAddr]
theorem binA_rel (hC : COk C) (hE : EOk C) {op : BinOp} {t : TypeId} {x y : Operand} {p q r : AV} (hp : VRel m I w lm p (a.eval x)) (hq : VRel m I w lm q (a.eval y))
  (hr : binA C op t x y p q = some r) : ∃ v, ((do eqGuard op t x y (a.eval x) (a.eval y); binOp op t (a.eval x) (a.eval y)) : Sem Value).run C.P w = .ok v w ∧ URel m I w r v := by
 unfold binA at hr
 split at hr
 ·rename_i k c k' d
  rw [hp.intV, hq.intV]
  have hg : (eqGuard op t x y (.int k c) (.int k' d)).run C.P w = .ok () w := eqGuard_plain op t x y (.inl (by simp)) (by simp)
  simp only [Sem.run_bind, hg, Result.andThen_ok]
  split at hr
  ·split at hr
   ·cases hr
   ·rename_i hneg
    simp only [Option.some.injEq] at hr; subst hr
    exact ⟨.int k (k.wrap (c * 2 ^ (min d.toNat k.bits))), by simp [binOp, Op.shift, hneg], .d _ _ (.int _ _)⟩
  ·split at hr
   ·cases hr
   ·rename_i hneg
    simp only [Option.some.injEq] at hr; subst hr
    exact ⟨.int k (c.fdiv (2 ^ (min d.toNat k.bits))), by simp [binOp, Op.shift, hneg], .d _ _ (.int _ _)⟩
  ·split at hr
   ·rename_i hk; subst hk
    exact intBin_rel t hr
   ·cases hr
 ·rename_i c d
  rw [hp.strV, hq.strV]
  have hg : (eqGuard op t x y (.string ⟨⟨c⟩⟩) (.string ⟨⟨d⟩⟩)).run C.P w = .ok () w := eqGuard_plain op t x y (.inl (by simp)) (by simp)
  simp only [Sem.run_bind, hg, Result.andThen_ok]
  exact strBin_rel t hr
 ·rename_i c d
  rw [hp.boolV, hq.boolV]
  have hg : (eqGuard op t x y (.bool c) (.bool d)).run C.P w = .ok () w := eqGuard_plain op t x y (.inl (by simp)) (by simp)
  simp only [Sem.run_bind, hg, Result.andThen_ok]
  split at hr
  ·rename_i _ _ _ _ hti
   have hd := T_bool hC hti
   have he := run_equalIn_bool' w 9999 t c d hd
   split at hr
   ·simp only [Option.some.injEq] at hr; subst hr
    exact ⟨_, binOp_eq (.inl rfl) rfl he, .d _ _ (.bool _)⟩
   ·simp only [Option.some.injEq] at hr; subst hr
    exact ⟨_, binOp_eq (.inr rfl) rfl he, .d _ _ (.bool _)⟩
   ·cases hr
  ·cases hr
 ·rename_i cs ds
  split at hr
  ·rename_i ks hks
   split at hr
   ·rename_i hfit
    obtain ⟨us, hu, hur⟩ := (aggs_rel hp).1 cs rfl
    obtain ⟨vs, hv, hvr⟩ := (aggs_rel hq).1 ds rfl
    obtain ⟨h1, h2, fs, hfs, hlen, hall⟩ := hE t ks hks
    rw [hu, hv]
    have hg : (eqGuard op t x y (.agg ⟨us⟩) (.agg ⟨vs⟩)).run C.P w = .ok () w := run_eqGuard_agg w op t x y _ _ h1
    simp only [Sem.run_bind, hg, Result.andThen_ok]
    have hff : C.P.fieldsOf t = fs := by simp [Program.fieldsOf, hfs]
    have hget : ∀ (zs : List DV) (ws : List Value), URels m I w (zs.map .d) ws → ∀ (i : Nat) z, zs[i]? = some z → ∃ y, ws[0 + i]? = some y ∧ DRel I w z y := by
     intro zs ws hz i z hi
     have hl : i < ws.length := by have := (List.getElem?_eq_some_iff.1 hi).1; have := hz.1; simp at this; omega
     exact ⟨ws[i], by simp [hl], (hz.2 i (.d z) _ (by simp [hi]) (by simp [hl])).toD⟩
    have hrun : ∀ b, scalsEq cs ds = some b → (Op.equalIn 10000 t (.agg ⟨us⟩) (.agg ⟨vs⟩)).run C.P w = .ok b w := by
     intro b hb
     rw [run_equalIn_struct w 9999 t ⟨us⟩ ⟨vs⟩ (by rw [hff]; exact hfs) h2, hff]
     exact eqFields_run 9998 ks fs.toList 0 cs ds b (by simpa using hlen) hfit.1 (fitAll_len hfit.2) (fun i f k hf hk => by
      obtain ⟨b1, b2, b3⟩ := hall i f k (by simpa using hf) hk
      exact ⟨by omega, b2, b3⟩) (hget cs us hur) (hget ds vs hvr) hb
    split at hr
    ·rename_i b hb
     simp only [Option.some.injEq] at hr; subst hr
     exact ⟨.bool b, by rw [run_eql_struct, hrun b hb]; rfl, .d _ _ (.bool _)⟩
    ·rename_i b hb
     simp only [Option.some.injEq] at hr; subst hr
     exact ⟨.bool (!b), by rw [run_neq_struct, hrun b hb]; rfl, .d _ _ (.bool _)⟩
    ·cases hr
   ·cases hr
  ·cases hr
 ·rename_i i o v i' o' v'
  split at hr
  ·rename_i hsame
   obtain ⟨rfl, rfl, rfl⟩ := hsame
   obtain ⟨b, hb, hpv⟩ := hp.ptrV
   obtain ⟨b', hb', hqv⟩ := hq.ptrV
   rw [hb] at hb'; cases hb'
   rw [hpv, hqv]
   have hg : (eqGuard op t x y (.pointer (some ⟨b, o, none⟩)) (.pointer (some ⟨b, o, none⟩))).run C.P w = .ok () w := eqGuard_plain op t x y (.inl (by simp)) (by simp)
   simp only [Sem.run_bind, hg, Result.andThen_ok]
   split at hr
   ·rename_i e _ _ _ _ hti
    obtain ⟨d, hd, hk, _⟩ := (hC _ _ hti).und
    cases d <;> simp only [KOk] at hk <;> try exact hk.elim
    subst hk
    split at hr
    ·rename_i te hte
     obtain ⟨ie, hie, _⟩ := (hC _ _ hte).info
     have he := equalIn_ptr (w := w) 9999 hd hie ⟨b, o, none⟩
     split at hr
     ·simp only [Option.some.injEq] at hr; subst hr
      exact ⟨_, binOp_eq (.inl rfl) rfl he, .d _ _ (.bool _)⟩
     ·simp only [Option.some.injEq] at hr; subst hr
      exact ⟨_, binOp_eq (.inr rfl) rfl he, .d _ _ (.bool _)⟩
     ·cases hr
    ·cases hr
   ·cases hr
  ·cases hr
 ·split at hr
  ·rename_i hnc
   split at hr
   ·cases hr
   ·rename_i ti hti
    split at hr
    ·rename_i b1 b2 h1 h2
     split at hr
     ·rename_i hor
      have he := nil_equal hC hti hp hq h1 h2 hor 9999
      obtain ⟨hb, hna⟩ := nilOf_byType h1 hp
      have hg : (eqGuard op t x y (a.eval x) (a.eval y)).run C.P w = .ok () w := eqGuard_const op t hnc hna
      simp only [Sem.run_bind, hg, Result.andThen_ok]
      split at hr
      ·simp only [Option.some.injEq] at hr; subst hr
       exact ⟨_, binOp_eq (.inl rfl) hb he, .d _ _ (.bool _)⟩
      ·simp only [Option.some.injEq] at hr; subst hr
       exact ⟨_, binOp_eq (.inr rfl) hb he, .d _ _ (.bool _)⟩
      ·cases hr
     ·cases hr
    ·cases hr
  ·cases hr
end
end Go.Dv
/- Every operation but a call. -/
namespace Go.Dv
section
variable {C : Ctx} {A : FAnn} {n : Nat} {m m' : Nat → Nat → Option Nat} {I I' : Nat → Prop} {w w' : World} {lm lm' : Nat → Option Nat} {σ σ' : St} {tmps : Array Value} {a : Act}
/-- A block that is laid as deep data at once. -/
theorem GrowI.imm {cv : Array Value} {e : TypeId} {f : Nat × Nat} (I : Nat → Prop) (w : World) : GrowI I w (fun b => I b ∨ b = w.heap.size) (w.alloc (.cells cv e f)) := by
 refine ⟨fun _ h => .inl h, WLe.alloc w _, fun b hb => alloc_old w _ hb, fun b hb => ?_⟩
 rcases hb with hb | rfl
 ·exact .inl hb
 ·exact .inr ⟨Nat.le_refl _, by unfold bsize; rw [alloc_new]; rfl⟩
theorem imm_of_row {I' : Nat → Prop} {b : Nat} {cv : Array Value} {e : TypeId} {f : Nat × Nat} {ds : List DV} {len cap : Nat} (hb : w.heap[b]? = some (.cells cv e f)) (hi : I' b) (hl : len ≤ cap)
  (hr : ∀ (i : Nat) x, ds[i]? = some x → ∃ y, cv[i]? = some y ∧ DRel I' w x y) : DRel I' w (.imm ds len) (.slice (some ⟨b, 0, none⟩) len cap) := by
 refine .imm ds len ⟨b, 0, none⟩ cap (fun i => (cv[i]?).getD undef) hl (fun _ => ⟨hi, rfl⟩) (fun i x hx => ?_) (fun i x hx => ?_)
 ·obtain ⟨y, hy, _⟩ := hr i x hx
  rw [cell_of_block hb, Nat.zero_add, hy]; rfl
 ·obtain ⟨y, hy, hd⟩ := hr i x hx
  rw [hy]; exact hd
theorem bytesOf_spec : ∀ {cs : List AV} {l : List UInt8}, bytesOfCells cs = some l → ∃ ns : List Int, cs = ns.map (fun n => .d (.int .u8 n)) ∧ l = ns.map fun n => UInt8.ofNat n.toNat
 | [], l, h => by simp [bytesOfCells] at h; subst h; exact ⟨[], rfl, rfl⟩
 | x :: r, l, h => by
  unfold bytesOfCells at h
  split at h
  ·cases ‹_ :: _ = []›
  ·rename_i n r' heq
   obtain ⟨rfl, rfl⟩ := List.cons.inj heq
   split at h
   ·rename_i l' hl'
    simp at h; subst h
    obtain ⟨ns, rfl, rfl⟩ := bytesOf_spec hl'
    exact ⟨n :: ns, rfl, rfl⟩
   ·cases h
  ·cases h
theorem foldl_bytes : ∀ (ns : List Int) (s : ByteArray), (ns.foldl (fun r n => r.push (UInt8.ofNat n.toNat)) s) = ⟨⟨s.data.toList ++ ns.map fun n => UInt8.ofNat n.toNat⟩⟩
 | [], s => by simp
 | n :: ns, s => by
  rw [List.foldl_cons, foldl_bytes ns]
  simp [ByteArray.push]
theorem run_stringToBytes {P : Program} (I : Nat → Prop) (w : World) (e : TypeId) (s : List UInt8) : ∃ (cap : Nat) (w2 : World), s.length ≤ cap ∧ GrowI I w (fun b => I b ∨ b = w.heap.size) w2 ∧
  w2.heap[w.heap.size]? = some (.cells ((s.map fun b : UInt8 => Value.int .u8 b.toNat).toArray ++ Array.replicate (cap - s.length) (Value.int .u8 0)) e (((s.map fun b : UInt8 => Value.int .u8 b.toNat).toArray ++ Array.replicate (cap - s.length) (Value.int .u8 0)).size, ((s.map fun b : UInt8 => Value.int .u8 b.toNat).toArray ++ Array.replicate (cap - s.length) (Value.int .u8 0)).size + 1)) ∧
  (Conv.stringToBytes e ⟨⟨s⟩⟩).run P w = .ok (.slice (some ⟨w.heap.size, 0, none⟩) s.length cap) w2 := by
 generalize hcap : (Question.appendCap s.length 0 e).cut (w.tape w.drawn (.appendCap s.length 0 e)) = cap
 have hle : s.length ≤ cap := by rw [← hcap]; simp [Question.cut]
 generalize hcv : ((s.map fun b : UInt8 => Value.int .u8 b.toNat).toArray ++ Array.replicate (cap - s.length) (Value.int .u8 0) : Array Value) = cv
 let w1 : World := { w with drawn := w.drawn + 1 }
 have hnew : (w1.alloc (.cells cv e)).heap[w.heap.size]? = some (.cells cv e (0, 0)) := alloc_new w1 _
 have hg1 := (GrowI.drew I w).trans (GrowI.alloc I w1 (.cells cv e))
 refine ⟨cap, (w1.alloc (.cells cv e)).freeze { block := w.heap.size, off := cv.size } 1, hle, ?_, ?_, ?_⟩
 ·have hold : ∀ b, b ≠ w.heap.size → ((w1.alloc (.cells cv e)).freeze { block := w.heap.size, off := cv.size } 1).heap[b]? = (w1.alloc (.cells cv e)).heap[b]? := by
   intro b hb
   simp only [World.freeze, Nat.one_ne_zero, if_false, Array.getElem?_modify]
   rw [if_neg (fun h => hb h.symm)]
  have hself : bsize ((w1.alloc (.cells cv e)).freeze { block := w.heap.size, off := cv.size } 1) w.heap.size = some cv.size := by
   unfold bsize
   simp only [World.freeze, Nat.one_ne_zero, if_false, Array.getElem?_modify, if_true, hnew]
   rfl
  refine ⟨fun _ h => .inl h, ⟨rfl, rfl, rfl, ?_, fun b k hb => ?_⟩, fun b hb => ?_, fun b hb => ?_⟩
  ·have := hg1.wle.size
   simpa [World.freeze] using this
  ·have hlt := lt_of_btype hb
   rw [btype_of_block (hold b (by omega))]
   exact hg1.wle.bt b k hb
  ·rw [hold b (by omega)]; exact hg1.old b hb
  ·rcases hb with hb | rfl
   ·exact .inl hb
   ·exact .inr ⟨Nat.le_refl _, by rw [hself]; rfl⟩
 ·rw [hcv]
  simp only [World.freeze, Nat.one_ne_zero, if_false, Array.getElem?_modify, if_true, hnew]
  rfl
 ·have hsz : (⟨⟨s⟩⟩ : ByteArray).size = s.length := rfl
  have hdata : (⟨⟨s⟩⟩ : ByteArray).data.map (fun b => Value.int .u8 b.toNat) = (s.map fun b : UInt8 => Value.int .u8 b.toNat).toArray := by
   apply Array.ext'; simp
  have hshape : (w1.alloc (.cells cv e)).shape? w.heap.size = some (e, cv.size) := by
   unfold World.shape?; rw [hnew]
  unfold Conv.stringToBytes
  simp only [Sem.run_bind, run_choose, Question.forced, Bool.false_eq_true, if_false, Result.andThen_ok, hsz, hdata, hcap, hcv, newRow, run_newObj, Sem.run_pure, markStringish, run_shape]
  have hshape2 : ({ heap := w.heap.push (.cells cv e), tape := w.tape, drawn := w.drawn + 1, os := w.os, output := w.output } : World).shape? w.heap.size = some (e, cv.size) := hshape
  simp only [hshape2, run_freeze, Result.andThen_ok]
  rfl
theorem bytesA_rel (hS : SRel C n m I w lm σ a.tmps) {x : AV} {v : Value} {l : List UInt8} (hsl : isSl x = true) (hx : VRel m I w lm x v) (hl : bytesA σ.h.get x = some l) :
  (Conv.bytesToString v).run C.P w = .ok (.string ⟨⟨l⟩⟩) w ∧ ∃ ao k c, v = .slice ao k c := by
 unfold bytesA at hl
 split at hl
 ·rename_i k cs hk hcs
  split at hl
  ·rename_i hn
   obtain ⟨ns, rfl, rfl⟩ := bytesOf_spec hl
   obtain ⟨_, nv, hfc, hnew⟩ := elems_run (σ := σ) hS.rel hx hk hcs (by rw [hn]; simp)
   have hnv : nv = (ns.map (Value.int .u8)).toArray := by
    apply Array.ext'
    apply List.ext_getElem?
    intro i
    have hl1 := hnew.1
    by_cases hi : i < ns.length
    ·have hi2 : i < nv.toList.length := by rw [hl1]; simpa using hi
     have := (hnew.2 i (.d (.int .u8 ns[i])) nv.toList[i] (by simp [hi]) (by rw [List.getElem?_eq_getElem hi2])).toD
     cases hq : nv.toList[i] <;> rw [hq] at this <;> cases this
     rw [List.getElem?_eq_getElem hi2, hq]
     simp [hi]
    ·have hi2 : nv.toList.length ≤ i := by rw [hl1]; simpa using hi
     rw [List.getElem?_eq_none hi2]
     simp [Nat.le_of_not_lt hi]
   have hfc0 := hfc w (fun _ => rfl)
   have hform : ∃ ao c, v = .slice ao k c := by
    unfold isSl at hsl
    split at hsl
    ·simp [lenA] at hk; subst hk; exact ⟨none, 0, hx.nilsV⟩
    ·simp [lenA] at hk; subst hk
     obtain ⟨ad, cap, vs, hv, _⟩ := hx.immV
     exact ⟨_, _, hv⟩
    ·simp [lenA] at hk; subst hk
     obtain ⟨b, cap, k2, _, hv, _⟩ := hx.mslV
     exact ⟨_, _, hv⟩
    ·cases hsl
   obtain ⟨ao, c, rfl⟩ := hform
   refine ⟨?_, ao, k, c, rfl⟩
   cases ao with
   | none =>
    simp [Builtin.firstCells] at hfc0
    have hns : ns = [] := by
     rw [hnv] at hfc0
     cases ns with
     | nil => rfl
     | cons _ _ => simp at hfc0
    subst hns
    simp [Conv.bytesToString]
    rfl
   | some ad =>
    have : (loadCells ad k).run C.P w = .ok (ns.map (Value.int .u8)).toArray w := by
     rw [← hnv]
     simpa [Builtin.firstCells] using hfc0
    rw [run_bytesToString w ad k c ns this, foldl_bytes]
    rfl
  ·cases hl
 ·cases hl
theorem convertA_out {o : Oper} {src dst : TypeId} {px : Operand} {x : AV} {eff : Eff} (hC : COk C) (hop : o.op = .convert src dst px) (hS : SRel C n m I w lm σ a.tmps)
  (hx : VRel m I w lm x (a.eval px)) (he : convertA C σ.h.get src dst x = some eff) (hap : applyEff A n o.dst σ eff = some σ') : OpOut C n m I w lm σ σ' a o := by
 have hexec : ∀ {v : Value} {w1 : World}, (convert src dst (a.eval px)).run C.P w = .ok v w1 → (execOp a.eval o).run C.P w = .ok (.value v) w1 := by
  intro v w1 hv
  simp [execOp, hop, hv]
 unfold convertA at he
 split at he
 ·rename_i _ _ _ _ _ _ k _ _ _ _ _ z hs hd
  have hus := T_int hC hs
  have hud := T_int hC hd
  simp only [Option.some.injEq] at he; subst he
  have := hx.intV
  exact val_out0 hS (hexec (by rw [this]; simp [convert, run_underlying hus, run_underlying hud, Conv.intToInt])) (.inr (.d _ _ (.int _ _))) hap
 ·rename_i _ _ _ _ _ _ _ _ _ _ s hs hd
  have hus := T_string hC hs
  have hud := T_string hC hd
  simp only [Option.some.injEq] at he; subst he
  have := hx.strV
  exact val_out0 hS (hexec (by rw [this]; simp [convert, run_underlying hus, run_underlying hud])) (.inr (.d _ _ (.str _))) hap
 ·rename_i hs hd
  have hus := T_string hC hs
  have hud := T_slice hC hd
  split at he
  ·rename_i hei
   have hue := T_int hC hei
   simp only [Option.some.injEq] at he; subst he
   have hsv := hx.strV
   obtain ⟨cap, w2, hcap, hg, hbl, hrun⟩ := run_stringToBytes (P := C.P) I w _ _
   refine val_out hS (hexec (w1 := w2) (by rw [hsv]; simp only [convert, Sem.run_bind, run_underlying hus, run_underlying hud, run_underlying hue, Result.andThen_ok]; exact hrun)) hg
    (.inr (.d _ _ (imm_of_row hbl (.inr rfl) hcap (fun i y hy => ?_)))) hap
   simp only [List.getElem?_map, Option.map_eq_some_iff] at hy
   obtain ⟨c, hc, rfl⟩ := hy
   have hi := (List.getElem?_eq_some_iff.1 hc).1
   refine ⟨.int .u8 c.toNat, ?_, .int _ _⟩
   rw [Array.getElem?_append_left (by simpa using hi)]
   simp [hc]
  ·cases he
 ·rename_i hs hd
  have hus := T_slice hC hs
  have hud := T_string hC hd
  split at he
  ·rename_i hei
   have hue := T_int hC hei
   split at he
   ·rename_i hsl
    split at he
    ·rename_i l hl
     simp only [Option.some.injEq] at he; subst he
     obtain ⟨hrun, ao, k, c, hv⟩ := bytesA_rel hS hsl hx hl
     refine val_out0 hS (hexec (v := .string ⟨⟨l⟩⟩) ?_) (.inr (.d _ _ (.str _))) hap
     rw [hv] at hrun ⊢
     rw [run_convert_bytes_string w _ _ _ _ _ _ hus hue hud]
     exact hrun
    ·cases he
   ·cases he
  ·cases he
 ·cases he
end
end Go.Dv
/- Every operation but a call: the theorem. -/
namespace Go.Dv
section
variable {C : Ctx} {A : FAnn} {n : Nat} {m m' : Nat → Nat → Option Nat} {I I' : Nat → Prop} {w w' : World} {lm lm' : Nat → Option Nat} {σ σ' : St} {tmps : Array Value} {a : Act}
theorem SRel.rho (hS : SRel C n m I w lm σ a.tmps) {x : Operand} {v : AV} (hv : Dv.rho C σ.env x = some v) : VRel m I w lm v (a.eval x) :=
 rho_rel hS.rel hS.env hv
theorem evalAll_rel (hS : SRel C n m I w lm σ a.tmps) : ∀ {ps : List (Nat × Operand)} {vs : List (Nat × AV)}, evalAll (Dv.rho C σ.env) ps = some vs → vs.any (·.2.isL) = false →
  vs.length = ps.length ∧ ∀ (i : Nat) x y, vs[i]? = some x → (ps.map fun p => (p.1, a.eval p.2))[i]? = some y → x.1 = y.1 ∧ URel m I w x.2 y.2
 | [], vs, h, _ => by simp [evalAll] at h; subst h; simp
 | (i, x) :: ps, vs, h, hl => by
  simp only [evalAll] at h
  split at h
  ·rename_i v l hv hl2
   simp at h; subst h
   simp only [List.any_cons, Bool.or_eq_false_iff] at hl
   obtain ⟨h1, h2⟩ := evalAll_rel hS hl2 hl.2
   refine ⟨by simp [h1], fun k p q hp hq => ?_⟩
   cases k with
   | zero => simp at hp hq; subst hp; subst hq; exact ⟨rfl, (hS.rho hv).toU hl.1⟩
   | succ k => exact h2 k p q (by simpa using hp) (by simpa using hq)
  ·cases h
theorem evalArgs_rel (hS : SRel C n m I w lm σ a.tmps) : ∀ {ps : List Operand} {vs : List AV}, evalArgs (Dv.rho C σ.env) ps = some vs → URels m I w vs (ps.map a.eval)
 | [], vs, h => by simp [evalArgs] at h; subst h; exact ⟨rfl, fun i x y hx => by simp at hx⟩
 | x :: ps, vs, h => by
  simp only [evalArgs] at h
  split at h
  ·rename_i v l hv hl2
   split at h
   ·cases h
   ·rename_i hL
    simp at h; subst h
    have h2 := evalArgs_rel hS hl2
    refine ⟨by simp [h2.1], fun k p q hp hq => ?_⟩
    cases k with
    | zero => simp at hp hq; subst hp; subst hq; exact (hS.rho hv).toU (by simpa using hL)
    | succ k => exact h2.2 k p q (by simpa using hp) (by simpa using hq)
  ·cases h
theorem buildSlice_run (hC : COk C) {t e : TypeId} {len sz : Nat} {parts : List (Nat × AV)} {vs : List (Nat × Value)} {cs : List AV} (hl : vs.length = parts.length)
  (hrel : ∀ (i : Nat) x y, parts[i]? = some x → vs[i]? = some y → x.1 = y.1 ∧ URel m I w x.2 y.2) (hr : buildSliceA C t len parts = some (e, sz, cs)) :
  ∃ (cv : Array Value), (Instr.buildSlice t len ⟨vs⟩).run C.P w = .ok (.slice (some ⟨w.heap.size, 0, none⟩) len len) (w.alloc (.cells cv e)) ∧ URels m I w cs cv.toList ∧ cv.size = len * sz := by
 unfold buildSliceA at hr
 split at hr
 ·rename_i e0 _ _ _ _ hti
  have hu := T_slice hC hti
  split at hr
  ·rename_i ei hei
   obtain ⟨ie, hie, hsz, _⟩ := T_info hC hei
   obtain ⟨zv, hz, hzc, hzs, _⟩ := zero_cells (m := m) (I := I) (w := w) hC hei
   split at hr
   ·cases hr
   ·rename_i hbig
    split at hr
    ·rename_i cs' hf
     simp only [Option.some.injEq, Prod.mk.injEq] at hr
     obtain ⟨rfl, rfl, rfl⟩ := hr
     have hrep := repeat_rel hzc len
     rw [hzs] at hrep
     by_cases h0 : len * ei.size = 0
     ·skip
      have hrep0 : URels m I w (repeatL (ei.zero.map .d) len) (#[] : Array Value).toList := by
       have : ((Array.range (len * ei.size)).map fun i => zv.cells[i % ei.size]!).toList = [] := by rw [h0]; simp
       rw [this] at hrep
       exact hrep
      obtain ⟨rv, h1, h2, h3⟩ := fillA_rel parts vs _ cs' #[] hl hrel hrep0 hf
      refine ⟨rv, ?_, h2, ?_⟩
      ·unfold Instr.buildSlice
       have hsz0 : len * ie.size = 0 := by rw [hsz]; exact h0
       simp only [Sem.run_bind, run_underlying hu, Result.andThen_ok, run_sizeOf_i w hie]
       rw [if_neg (by rw [hsz]; omega)]
       simp only [hsz0, if_true, Sem.run_bind, Sem.run_pure, Result.andThen_ok]
       have : ((Array.range 0).map fun x => (#[] : Array Value)[x % (#[] : Array Value).size]!) = #[] := by simp
       simp only [this, hsz, h1, newRow, Sem.run_bind, run_newObj, Result.andThen_ok, Sem.run_pure]
       rfl
      ·have := h2.1
       have h4 := hrep0.1
       simp at this h4
       rw [← h4] at h3
       have : rv.size = 0 := by rw [← Array.length_toList, h2.1, h3]
       rw [this, h0]
     ·obtain ⟨rv, h1, h2, h3⟩ := fillA_rel parts vs _ cs' _ hl hrel hrep hf
      refine ⟨rv, ?_, h2, ?_⟩
      ·unfold Instr.buildSlice
       have hsz0 : ¬ len * ie.size = 0 := by rw [hsz]; exact h0
       simp only [Sem.run_bind, run_underlying hu, Result.andThen_ok, run_sizeOf_i w hie]
       rw [if_neg (by rw [hsz]; omega)]
       rw [if_neg hsz0]
       simp only [Sem.run_bind, hz, Sem.run_pure, Result.andThen_ok, hzs, hsz, h1, newRow, run_newObj]
       rfl
      ·have h5 := hrep.1
       have h6 := h2.1
       simp at h5
       rw [← Array.length_toList, h6, h3, ← h5]
    ·cases hr
  ·cases hr
 ·cases hr
theorem lenA_rel (hC : COk C) (hS : SRel C n m I w lm σ a.tmps) {x : AV} {v : Value} {k : Nat} {t ty : TypeId} {at_ : Array TypeId} (ht : at_[0]? = some t) (hk : lenKind C t x = true)
  (hx : VRel m I w lm x v) (hl : lenA σ.h.get x = some k) : (Builtin.len_ at_ ty #[v]).run C.P w = .ok (goInt k) w := by
 unfold lenKind at hk
 split at hk
 ·rename_i hti
  have hu := T_slice hC hti
  unfold lenA at hl
  split at hl
  ·simp at hl; subst hl; have := hx.nilsV; subst this; simp [Builtin.len_, ht, run_underlying hu]
  ·simp at hl; subst hl; obtain ⟨_, _, _, rfl, _⟩ := hx.immV; simp [Builtin.len_, ht, run_underlying hu]
  ·simp at hk
  ·simp at hl; subst hl; obtain ⟨_, _, _, _, rfl, _⟩ := hx.mslV; simp [Builtin.len_, ht, run_underlying hu]
  ·simp at hk
  ·simp at hk
  ·cases hl
 ·rename_i hti
  have hu := T_string hC hti
  unfold lenA at hl
  split at hl <;> simp at hk
  simp at hl; subst hl
  have := hx.strV; subst this
  simp only [Builtin.len_, ht, List.getElem?_toArray, List.getElem?_cons_zero, Sem.run_bind, run_underlying hu, Result.andThen_ok, Sem.run_pure]
  rfl
 ·rename_i hti
  have hu := T_map hC hti
  unfold lenA at hl
  split at hl <;> simp at hk
  ·simp at hl; subst hl
   have := hx.d; cases this
   simp [Builtin.len_, ht, run_underlying hu]
  ·rename_i id
   split at hl
   ·rename_i es hg
    simp at hl; subst hl
    have := hx.toU rfl
    cases this with
    | map _ b hb =>
     obtain ⟨b', hb', _, ys, clock, hblk, hlen, _⟩ := hS.rel.obj id _ hg
     simp only [Obj.ver] at hb'
     rw [hb] at hb'; cases hb'
     have : ys.size = es.length := by simpa using hlen
     simp [Builtin.len_, ht, run_underlying hu, run_getObj_map hblk, this]
   ·cases hl
 ·cases hk
end
end Go.Dv
/- Every operation but a call: the theorem. -/
namespace Go.Dv
section
variable {C : Ctx} {A : FAnn} {n : Nat} {m m' : Nat → Nat → Option Nat} {I I' : Nat → Prop} {w w' : World} {lm lm' : Nat → Option Nat} {σ σ' : St} {tmps : Array Value} {a : Act}
theorem array_map_pairs (parts : Array (Nat × Operand)) (f : Operand → Value) : (parts.map fun p => (p.1, f p.2)) = ⟨parts.toList.map fun p => (p.1, f p.2)⟩ := by
 apply Array.ext'; simp
theorem array_map_list (xs : Array Operand) (f : Operand → Value) : xs.map f = ⟨xs.toList.map f⟩ := by
 apply Array.ext'; simp
theorem map_some_val {f : Option AV} {eff : Eff} (h : f.map Eff.val = some eff) : ∃ v, f = some v ∧ eff = .val v := by
 simp only [Option.map_eq_some_iff] at h
 obtain ⟨v, h1, h2⟩ := h
 exact ⟨v, h1, h2.symm⟩
theorem newMap_out {o : Oper} (hS : SRel C n m I w lm σ a.tmps) (hrun : (execOp a.eval o).run C.P w = .ok (.value (.map (some w.heap.size))) (w.alloc (.map #[] 0)))
  (hap : applyEff A n o.dst σ .newMap = some σ') : OpOut C n m I w lm σ σ' a o := by
 have hfree := hS.free_new
 have hg := GrowI.alloc I w (.map #[] 0)
 have hS2 := hS.grow hg
 have hlt : w.heap.size < (w.alloc (.map #[] 0)).heap.size := by rw [alloc_size]; omega
 have hS3 := SRel.newObj hS2 (b := w.heap.size) (o := .map []) hlt ⟨hfree.i, hfree.t, hfree.l⟩ rfl ⟨#[], 0, alloc_new w _, rfl, fun i x y hx => by simp at hx, fun x hx => by simp at hx⟩
 simp only [applyEff, Option.map_eq_some_iff] at hap
 obtain ⟨env, he, rfl⟩ := hap
 have hS4 := SRel.putD (a := a) (dst := o.dst) (v := .map (some w.heap.size)) hS3 (.inr (.map _ _ (by simp [updM]))) he
 exact ⟨_, _, _, hrun, .inl rfl, _, I, lm, hS4, Step.newObj hS hg (Nat.le_refl _)⟩
set_option maxHeartbeats 1000000 in
theorem op_out (hC : COk C) (hE : EOk C) {o : Oper} {eff : Eff} (hS : SRel C n m I w lm σ a.tmps) (he : opA C A (Dv.rho C σ.env) σ.loc σ.h.get o = some eff)
  (hap : applyEff A n o.dst σ eff = some σ') : OpOut C n m I w lm σ σ' a o := by
 unfold opA at he
 split at he
 ·skip
  rename_i x hop
  obtain ⟨v, hv, rfl⟩ := map_some_val he
  exact val_out0 hS (v' := a.eval x) (by simp [execOp, hop]) (hS.rho hv) hap
 ·rename_i x hop
  obtain ⟨v, hv, rfl⟩ := map_some_val he
  exact val_out0 hS (v' := a.eval x) (by simp [execOp, hop]) (hS.rho hv) hap
 ·skip
  rename_i c x y hop
  split at he
  ·rename_i hc
   obtain ⟨v, hv, rfl⟩ := map_some_val he
   have hb := (hS.rho hc).boolV
   exact val_out0 hS (v' := a.eval x) (by simp [execOp, hop, hb, asBool]) (hS.rho hv) hap
  ·rename_i hc
   obtain ⟨v, hv, rfl⟩ := map_some_val he
   have hb := (hS.rho hc).boolV
   exact val_out0 hS (v' := a.eval y) (by simp [execOp, hop, hb, asBool]) (hS.rho hv) hap
  ·cases he
 ·skip
  rename_i t hop
  split at he
  ·rename_i d z hd hz
   simp only [zeroA, Option.map_eq_some_iff] at hz
   obtain ⟨ti, hti, rfl⟩ := hz
   obtain ⟨zv, hzv, hzc, _, _⟩ := zero_cells (m := m) (I := I) (w := w) hC hti
   have hrun : (execOp a.eval o).run C.P w = .ok (.value (.pointer (some ⟨w.heap.size, 0, none⟩))) (w.alloc (.cells zv.cells t)) := by
    simp only [execOp, hop, Instr.alloc, Sem.run_bind, hzv, Result.andThen_ok, newVar, newRow, run_newObj, Sem.run_pure]
    rfl
   split at he
   ·simp only [Option.some.injEq] at he; subst he
    exact newVar_out (w1 := w) hS (GrowI.refl I w) hrun hzc (List.prefix_refl _) (by have := hzc.1; simpa using this) rfl hap
   ·simp only [Option.some.injEq] at he; subst he
    exact newL_out hS hrun hzc hap
  ·cases he
 ·skip
  rename_i t x hop
  split at he
  ·rename_i d v ti hd hv hti
   split at he
   ·cases he
   ·rename_i hcond
    simp only [not_or, Bool.not_eq_true, Decidable.not_not, Bool.not_eq_true', Bool.not_eq_false] at hcond
    have hu := (hS.rho hv).toU hcond.1
    have hrun : (execOp a.eval o).run C.P w = .ok (.value (.pointer (some ⟨w.heap.size, 0, none⟩))) (w.alloc (.cells (a.eval x).cells t)) := by
     simp only [execOp, hop, Instr.box, Sem.run_bind, newVar, newRow, run_newObj, Result.andThen_ok, Sem.run_pure]
     rfl
    split at he
    ·simp only [Option.some.injEq] at he; subst he
     exact newVar_out (w1 := w) hS (GrowI.refl I w) hrun (cells_rel hu) (List.prefix_refl _) (by have := (cells_rel hu).1; simpa using this) rfl hap
    ·simp only [Option.some.injEq] at he; subst he
     exact newL_out hS hrun (cells_rel hu) hap
  ·cases he
 ·skip
  rename_i t parts hop
  split at he
  ·rename_i ps hps
   split at he
   ·cases he
   ·rename_i hl
    obtain ⟨v, hv, rfl⟩ := map_some_val he
    obtain ⟨h1, h2⟩ := evalAll_rel hS hps (by simpa using hl)
    obtain ⟨r, hr, hu⟩ := buildA_rel (w := w) hC (vs := parts.toList.map fun p => (p.1, a.eval p.2)) (by simp [h1]) h2 hv
    exact val_out0 hS (by simp only [execOp, hop, array_map_pairs, Sem.run_bind, hr, Result.andThen_ok, Sem.run_pure]) (.inr hu) hap
  ·cases he
 ·skip
  rename_i t len parts hop
  split at he
  ·rename_i d ps hd hps
   split at he
   ·cases he
   ·rename_i hl
    obtain ⟨h1, h2⟩ := evalAll_rel hS hps (by simpa using hl)
    split at he
    ·rename_i e sz cs hb
     obtain ⟨cv, hr, hu, hsz⟩ := buildSlice_run (w := w) hC (vs := parts.toList.map fun p => (p.1, a.eval p.2)) (by simp [h1]) h2 hb
     have hrun : (execOp a.eval o).run C.P w = .ok (.value (.slice (some ⟨w.heap.size, 0, none⟩) len len)) (w.alloc (.cells cv e)) := by
      simp only [execOp, hop, array_map_pairs, Sem.run_bind, hr, Result.andThen_ok, Sem.run_pure]
     split at he
     ·simp only [Option.some.injEq] at he; subst he
      exact newCells_out (w1 := w) hS (GrowI.refl I w) hrun hu (List.prefix_refl _) ⟨len, rfl, Nat.le_refl _, by omega⟩ hap
     ·split at he
      ·rename_i ds hds
       simp only [Option.some.injEq] at he; subst he
       have hcs := allD_spec hds
       have hg := GrowI.imm (cv := cv) (e := e) (f := (0, 0)) I w
       have hk : Keeps I w (w.alloc (.cells cv e)) := fun b hb => hg.old b (hS.rel.iLt hb)
       refine val_out hS hrun hg (.inr (.d _ _ (imm_of_row (alloc_new w _) (.inr rfl) (Nat.le_refl _) (fun i x hx => ?_)))) hap
       have h3 : cs[i]? = some (.d x) := by rw [hcs]; simp [hx]
       have hi : i < cv.size := by have := (List.getElem?_eq_some_iff.1 h3).1; have := hu.1; simp at this; omega
       exact ⟨cv[i], by simp [hi], ((hu.2 i _ cv[i] h3 (by simp [hi])).toD).mono (fun _ h => .inl h) hk⟩
      ·cases he
    ·cases he
  ·cases he
 ·skip
  rename_i t p hop
  split at he
  ·rename_i pv hp
   obtain ⟨v, hv, rfl⟩ := map_some_val he
   obtain ⟨r, hr, hu⟩ := loadA_rel hC hS.rel hS.loc (hS.rho hp) hv
   exact val_out0 hS (by simp [execOp, hop, hr]) (.inr hu) hap
  ·cases he
 ·skip
  rename_i t p x hop
  split at he
  ·rename_i pv v hp hv
   exact storeA_out hC hop hS (hS.rho hp) (hS.rho hv) he hap
  ·cases he
 ·skip
  rename_i x hop
  split at he
  ·rename_i hv
   simp only [Option.some.injEq] at he; subst he
   obtain ⟨b, _, hb⟩ := (hS.rho hv).ptrV
   exact val_out0 hS (v' := a.eval x) (by simp [execOp, hop, hb]) (hS.rho hv) hap
  ·rename_i hv
   simp only [Option.some.injEq] at he; subst he
   obtain ⟨b, _, hb⟩ := (hS.rho hv).lptrV
   exact val_out0 hS (v' := a.eval x) (by simp [execOp, hop, hb]) (hS.rho hv) hap
  ·rename_i hv
   simp only [Option.some.injEq] at he; subst he
   obtain ⟨b, _, hb, _⟩ := (hS.rho hv).iptrV
   exact val_out0 hS (v' := a.eval x) (by simp [execOp, hop, hb]) (hS.rho hv) hap
  ·rename_i hv
   simp only [Option.some.injEq] at he; subst he
   have hr := hS.rho hv
   have hu := hr.toU rfl
   refine val_out0 hS (v' := a.eval x) ?_ hr hap
   cases hxv : a.eval x <;> rw [hxv] at hu <;> cases hu
   simp [execOp, hop, hxv]
  ·rename_i hv
   simp only [Option.some.injEq] at he; subst he
   have hr := hS.rho hv
   have hu := hr.d
   refine val_out0 hS (v' := a.eval x) ?_ hr hap
   cases hxv : a.eval x <;> rw [hxv] at hu <;> cases hu
   simp [execOp, hop, hxv]
  ·rename_i hv
   simp only [Option.some.injEq] at he; subst he
   have hr := hS.rho hv
   have hu := hr.toU rfl
   refine val_out0 hS (v' := a.eval x) ?_ hr hap
   cases hxv : a.eval x <;> rw [hxv] at hu <;> cases hu
   simp [execOp, hop, hxv]
  ·cases he
 ·skip
  rename_i op t x y yt hop
  split at he
  ·rename_i p q hp hq
   obtain ⟨v, hv, rfl⟩ := map_some_val he
   obtain ⟨r, hr, hu⟩ := binA_rel (w := w) hC hE (hS.rho hp) (hS.rho hq) hv
   refine val_out0 hS (v' := r) ?_ (.inr hu) hap
   simp only [execOp, hop]
   rw [Sem.run_bind, hr]
   rfl
  ·cases he
 ·skip
  rename_i op t x hop
  split at he
  ·rename_i p hp
   obtain ⟨v, hv, rfl⟩ := map_some_val he
   unfold unA at hv
   split at hv
   ·rename_i b
    have hb := (hS.rho hp).boolV
    cases op <;> simp at hv
    subst hv
    exact val_out0 hS (v' := .bool (!b)) (by simp [execOp, hop, hb, Op.unary]) (.inr (.d _ _ (.bool _))) hap
   ·rename_i k c
    have hb := (hS.rho hp).intV
    cases op <;> simp at hv
    subst hv
    exact val_out0 hS (v' := .int k (k.wrap (0 - c))) (by simp [execOp, hop, hb, Op.unary, Op.intArith]) (.inr (.d _ _ (by simpa using DRel.int _ _))) hap
   ·cases hv
  ·cases he
 ·skip
  rename_i src dst x hop
  split at he
  ·rename_i v hv
   exact convertA_out hC hop hS (hS.rho hv) he hap
  ·cases he
 ·skip
  rename_i t x hop
  split at he
  ·rename_i v hv hk
   simp only [Option.map_eq_some_iff] at hk
   obtain ⟨ti, hti, hk⟩ := hk
   have hrun : (execOp a.eval o).run C.P w = .ok (.value (.iface t (a.eval x))) w := by
    obtain ⟨d, hd, hkd, _⟩ := (hC _ _ hti).und
    cases htk : ti.k <;> rw [htk] at hk hkd <;> simp [plainKind] at hk <;> cases d <;> simp [KOk] at hkd <;> simp [execOp, hop, Instr.makeInterface, run_underlying hd]
   split at he
   ·rename_i dv
    simp only [Option.some.injEq] at he; subst he
    exact val_out0 hS hrun (.inr (.d _ _ (.iface t _ _ (hS.rho hv).d))) hap
   ·split at he
    ·cases he
    ·rename_i hl
     simp only [Option.some.injEq] at he; subst he
     exact val_out0 hS hrun (.inr (.iface t _ _ ((hS.rho hv).toU (by simpa using hl)))) hap
  ·cases he
 ·skip
  rename_i f first captured hop
  split at he
  ·rename_i p q hp hq
   simp only [Option.some.injEq] at he; subst he
   have h1 := evalArgs_rel hS hp
   have h2 := evalArgs_rel hS hq
   exact val_out0 hS (v' := .func (.func f) ⟨first.toList.map a.eval⟩ ⟨captured.toList.map a.eval⟩) (by simp only [execOp, hop, array_map_list, Instr.makeFunc, Sem.run_bind, Sem.run_pure, Result.andThen_ok])
    (.inr (.clo f p q _ _ h1.1 h2.1 h1.2 h2.2)) hap
  ·cases he
 ·skip
  rename_i t hop
  simp only [Option.some.injEq] at he; subst he
  exact newMap_out hS (by simp [execOp, hop, Instr.makeMap]) hap
 ·rename_i t r hop
  split at he
  ·rename_i k c _ _ _ _ _ _ hr hti
   have hu := T_map hC hti
   simp only [Option.some.injEq] at he; subst he
   have hv := (hS.rho hr).intV
   exact newMap_out hS (by simp [execOp, hop, Instr.makeMap, run_underlying hu, hv, asInt, asIntOf]) hap
  ·cases he
 ·skip
  rename_i t l c hop
  split at he
  ·rename_i e _ _ _ _ k k' hti hl hc
   have hu := T_slice hC hti
   split at he
   ·rename_i ei hei
    obtain ⟨ie, hie, hsz, hby⟩ := T_info hC hei
    split at he
    ·rename_i hcond
     obtain ⟨rfl, h0, hbig, hbytes⟩ := hcond
     simp only [Option.some.injEq] at he; subst he
     have hlv := (hS.rho hl).intV
     have hcv := (hS.rho hc).intV
     obtain ⟨zv, hzv, hzc, hzs, _⟩ := zero_cells (m := m) (I := I) (w := w) hC hei
     have hrep := repeat_rel hzc k.toNat
     have hwr : IntKind.i64.wrap k = k := IntWalk.i64_in k (by omega)
     have hby1 : ¬ ((ie.bytes : Int) * k > 2 ^ 48) := by
      have h1 : (ie.bytes : Int) ≤ 2 ^ 16 := by rw [hby]; omega
      have h2 : (ie.bytes : Int) * k ≤ 2 ^ 16 * 2 ^ 26 := Int.mul_le_mul h1 hbig h0 (by omega)
      omega
     have hti2 : (typeInfo e).run C.P w = .ok ie w := by simp [typeInfo, hie]
     have hrun : (execOp a.eval o).run C.P w = .ok (.value (.slice (some ⟨w.heap.size, 0, none⟩) k.toNat k.toNat)) (w.alloc (.cells ((Array.range (k.toNat * zv.cells.size)).map fun i => zv.cells[i % zv.cells.size]!) e)) := by
      have hcond : ((decide (k < 0) || decide ((ie.bytes : Int) * k > 2 ^ 48)) || decide (k < 0) || decide (k > k)) = false := by
       simp only [Bool.or_eq_false_iff, decide_eq_false_iff_not]
       exact ⟨⟨⟨by omega, hby1⟩, by omega⟩, by omega⟩
      simp only [execOp, hop, Instr.makeSlice, Sem.run_bind, run_underlying hu, Result.andThen_ok, hlv, hcv, asInt, asIntOf, Sem.run_pure, hti2, hwr, hcond, Bool.false_eq_true, if_false, run_askRoom, run_sizeOf_i w hie]
      rw [hzs, ← hsz]
      by_cases hn0 : k.toNat * ie.size = 0
      ·simp only [hn0, if_true, Sem.run_pure, Result.andThen_ok, newRow, Sem.run_bind, run_newObj]
       have h1 : ((Array.range 0).map fun x => (#[] : Array Value)[x % (#[] : Array Value).size]!) = #[] := by simp
       have h2 : ((Array.range 0).map fun i => zv.cells[i % ie.size]!) = #[] := by simp
       rw [h1, h2]
       rfl
      ·simp only [hn0, if_false, Sem.run_bind, hzv, Sem.run_pure, Result.andThen_ok, newRow, run_newObj, hzs, ← hsz]
       rfl
     exact newCells_out (w1 := w) hS (GrowI.refl I w) hrun hrep (List.prefix_refl _) ⟨k.toNat, rfl, Nat.le_refl _, by simp [hzs]⟩ hap
    ·cases he
   ·cases he
  ·cases he
 ·skip
  rename_i t x lo hi hop
  split at he
  ·rename_i v l hh hv hl hhi
   obtain ⟨r, hr, rfl⟩ := map_some_val he
   obtain ⟨rv, hrun, hu⟩ := sliceA_rel (w := w) (lov := lo.map a.eval) (hiv := hi.map a.eval) hC (hS.rho hv) (by
     cases lo with
     | none => simp at hl; subst hl; trivial
     | some y =>
      simp only [Option.map_eq_some_iff] at hl
      obtain ⟨z, hz, rfl⟩ := hl
      exact hS.rho hz) (by
     cases hi with
     | none => simp at hhi; subst hhi; trivial
     | some y =>
      simp only [Option.map_eq_some_iff] at hhi
      obtain ⟨z, hz, rfl⟩ := hhi
      exact hS.rho hz) hr
   exact val_out0 hS (by simp only [execOp, hop, Option.map_none, Sem.run_bind, hrun, Result.andThen_ok, Sem.run_pure]) (.inr hu) hap
  ·cases he
 ·skip
  rename_i s x f hop
  split at he
  ·rename_i v hv
   obtain ⟨r, hr, rfl⟩ := map_some_val he
   obtain ⟨rv, hrun, hu⟩ := fieldAddrA_rel (w := w) hC (hS.rho hv) hr
   exact val_out0 hS (by simp [execOp, hop, hrun]) hu hap
  ·cases he
 ·skip
  rename_i s x f hop
  split at he
  ·rename_i v hv
   obtain ⟨r, hr, rfl⟩ := map_some_val he
   obtain ⟨rv, hrun, hu⟩ := fieldA_rel (w := w) hC (hS.rho hv) hr
   exact val_out0 hS (by simp [execOp, hop, hrun]) (.inr hu) hap
  ·cases he
 ·skip
  rename_i t x i hop
  split at he
  ·rename_i v j hv hj
   obtain ⟨r, hr, rfl⟩ := map_some_val he
   obtain ⟨rv, hrun, hu⟩ := indexAddrA_rel (w := w) hC (hS.rho hv) (hS.rho hj) hr
   exact val_out0 hS (by simp [execOp, hop, hrun]) hu hap
  ·cases he
 ·skip
  rename_i t x i hop
  split at he
  ·rename_i v j hv hj
   obtain ⟨r, hr, rfl⟩ := map_some_val he
   obtain ⟨rv, hrun, hu⟩ := indexA_rel (w := w) hC (hS.rho hv) (hS.rho hj) hr
   exact val_out0 hS (by simp [execOp, hop, hrun]) (.inr hu) hap
  ·cases he
 ·skip
  rename_i t x k ok hop
  split at he
  ·rename_i v j hv hj
   obtain ⟨r, hr, rfl⟩ := map_some_val he
   obtain ⟨rv, hrun, hu⟩ := lookupA_rel (w := w) hC hS.rel (hS.rho hv) (hS.rho hj) hr
   exact val_out0 hS (by simp [execOp, hop, hrun]) (.inr hu) hap
  ·cases he
 ·skip
  rename_i t mx kx x hop
  split at he
  ·rename_i u k v hu hk hv
   exact mapUpdate_out hC hop hS (hS.rho hu) (hS.rho hk) (hS.rho hv) he hap
  ·cases he
 ·skip
  rename_i x i hop
  split at he
  ·rename_i vs hv
   obtain ⟨r, hr, rfl⟩ := map_some_val he
   have hu := (hS.rho hv).toU rfl
   cases hxv : a.eval x <;> rw [hxv] at hu <;> cases hu
   rename_i us hlen hrel
   have hi : i < us.length := by have := (List.getElem?_eq_some_iff.1 hr).1; omega
   exact val_out0 hS (v' := us[i]) (by simp [execOp, hop, hxv, Instr.extract, hi]) (.inr (hrel i r _ hr (by simp [hi]))) hap
  ·cases he
 ·skip
  rename_i c hop
  split at he
  ·cases he
  ·rename_i args hargs
   have hrel := evalArgs_rel hS hargs
   split at he
   ·split at he
    ·rename_i f hf v hv
     unfold callValA at he
     split at he <;> simp at he <;> subst he <;> simp [applyEff] at hap
    ·cases he
   ·rename_i hcal
    split at he
    ·rename_i x
     split at he
     ·rename_i t ht
      split at he
      ·rename_i hk
       simp only [Option.map_eq_some_iff] at he
       obtain ⟨k, hlen, rfl⟩ := he
       have hca : ∃ x0, c.args = #[x0] := by
        have h1 := hrel.1
        match hcl : c.args.toList, h1 with
        | [x0], _ => exact ⟨x0, by apply Array.ext'; simpa using hcl⟩
       obtain ⟨x0, hca⟩ := hca
       have hx : VRel m I w lm x (a.eval x0) := .inr (hrel.2 0 x _ rfl (by simp [hca]))
       have := lenA_rel (ty := o.type) hC hS ht hk hx hlen
       exact val_out0 hS (v' := goInt k) (by simp [execOp, hop, resolve, hcal, hca, invoke, builtin, this]) (.inr (.d _ _ (.int _ _))) hap
      ·cases he
     ·cases he
    ·cases he
   ·rename_i hcal
    split at he
    ·rename_i s x
     split at he
     ·rename_i t ht
      have hca : ∃ x0 x1, c.args = #[x0, x1] := by
       have h1 := hrel.1
       match hcl : c.args.toList, h1 with
       | [x0, x1], _ => exact ⟨x0, x1, by apply Array.ext'; simpa using hcl⟩
      obtain ⟨x0, x1, hca⟩ := hca
      exact appendA_out hC hop hcal hca ht hS (.inr (hrel.2 0 s _ rfl (by simp [hca]))) (.inr (hrel.2 1 x _ rfl (by simp [hca]))) he hap
     ·cases he
    ·cases he
   ·rename_i hcal
    split at he
    ·rename_i s x
     split at he
     ·rename_i t ht
      have hca : ∃ x0 x1, c.args = #[x0, x1] := by
       have h1 := hrel.1
       match hcl : c.args.toList, h1 with
       | [x0, x1], _ => exact ⟨x0, x1, by apply Array.ext'; simpa using hcl⟩
      obtain ⟨x0, x1, hca⟩ := hca
      obtain ⟨id, es', w1, rfl, hrun, hS2, hst⟩ := deleteA_run (ty := o.type) (mv := a.eval x0) (kv := a.eval x1) hC ht hS (.inr (hrel.2 0 s _ rfl (by simp [hca]))) (.inr (hrel.2 1 x _ rfl (by simp [hca]))) he
      simp only [applyEff] at hap
      obtain ⟨I2, hS3, hst3⟩ := putV_sound (v := .tuple #[]) hS2 (.inr (.tuple [] [] rfl (fun i x y hx => by simp at hx))) hap
      exact ⟨_, w1, .tuple #[], by simp [execOp, hop, resolve, hcal, hca, invoke, builtin, hrun], .inl rfl, m, I2, lm, hS3, hst.trans hst3⟩
     ·cases he
    ·cases he
   ·split at he
    ·simp at he; subst he; simp [applyEff] at hap
    ·cases he
   ·rename_i hcal
    split at he
    ·simp only [Option.some.injEq] at he; subst he
     have hca : ∃ x0, c.args = #[x0] := by
      have h1 := hrel.1
      match hcl : c.args.toList, h1 with
      | [x0], _ => exact ⟨x0, by apply Array.ext'; simpa using hcl⟩
     obtain ⟨x0, hca⟩ := hca
     have hx : VRel m I w lm (.d .nilslice) (a.eval x0) := .inr (hrel.2 0 _ _ rfl (by simp [hca]))
     have hxv := hx.nilsV
     exact val_out0 hS (v' := .pointer none) (by simp [execOp, hop, resolve, hcal, hca, invoke, builtin, hxv, Lib.run_unsafeSliceData_nil]) (.inr (.d _ _ .nilptr)) hap
    ·rename_i id off len ver sz
     split at he
     ·rename_i h0
      simp only [Option.some.injEq] at he; subst he
      have hca : ∃ x0, c.args = #[x0] := by
       have h1 := hrel.1
       match hcl : c.args.toList, h1 with
       | [x0], _ => exact ⟨x0, by apply Array.ext'; simpa using hcl⟩
      obtain ⟨x0, hca⟩ := hca
      have hx : VRel m I w lm (.msl id off len ver sz) (a.eval x0) := .inr (hrel.2 0 _ _ rfl (by simp [hca]))
      obtain ⟨b, cap, bs, hm, hev, hlc, hbs, hcapb⟩ := hx.mslV
      exact val_out0 hS (v' := .pointer (some ⟨b, off, none⟩)) (by simp [execOp, hop, resolve, hcal, hca, invoke, builtin, hev, Lib.run_unsafeSliceData_row _ _ _ _ _ cap (by omega)]) (.inr (.ptr _ _ _ _ hm)) hap
     ·cases he
    ·cases he
   ·rename_i hcal
    split at he
    ·rename_i k
     split at he
     ·rename_i h0
      obtain ⟨rfl, hts⟩ := h0
      simp only [Option.some.injEq] at he; subst he
      have hca : ∃ x0 x1, c.args = #[x0, x1] := by
       have h1 := hrel.1
       match hcl : c.args.toList, h1 with
       | [x0, x1], _ => exact ⟨x0, x1, by apply Array.ext'; simpa using hcl⟩
      obtain ⟨x0, x1, hca⟩ := hca
      have hx : VRel m I w lm (.d .nilptr) (a.eval x0) := .inr (hrel.2 0 _ _ rfl (by simp [hca]))
      have hy : VRel m I w lm (.d (.int .i64 0)) (a.eval x1) := .inr (hrel.2 1 _ _ rfl (by simp [hca]))
      have hxv : a.eval x0 = .pointer none := by
       have := hx.d
       cases hq : a.eval x0 <;> rw [hq] at this <;> cases this
       rfl
      have hyv := hy.intV
      obtain ⟨pt, it, hat⟩ : ∃ pt it, c.argTypes = #[pt, it] := by
       match hcl : c.argTypes.toList, (by simpa using hts : c.argTypes.toList.length = 2) with
       | [p, q], _ => exact ⟨p, q, by apply Array.ext'; simpa using hcl⟩
      exact val_out0 hS (v' := .string .empty) (by simp [execOp, hop, resolve, hcal, hca, invoke, builtin, hxv, hyv, hat, Lib.run_unsafeString_none]) (.inr (.d _ _ (.str []))) hap
     ·cases he
    ·cases he
   ·cases he
 ·skip
  split at he
  ·split at he
   ·cases he
   ·simp at he; subst he; simp [applyEff] at hap
  ·cases he
 ·cases he
end
end Go.Dv
