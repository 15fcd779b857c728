/- A part of the proof of InferUses, second form: for every input of bulk at most 1048576 the call returns true and the arguments read as they did. Its condition: that bulk. -/
import Derived.Test.YtanhfhjoeoinoaaGreatDoorU02
/- A value comes into a slot. -/
namespace Go.Dv
section
variable {C : Ctx} {A : FAnn} {n : Nat} {m m' : Nat → Nat → Option Nat} {I I' : Nat → Prop} {w w' : World} {lm lm' : Nat → Option Nat} {σ σ' : St} {tmps : Array Value} {a : Act}
/-- What one operation has done. -/
def OpOut (C : Ctx) (n : Nat) (m : Nat → Nat → Option Nat) (I : Nat → Prop) (w : World) (lm : Nat → Option Nat) (σ σ' : St) (a : Act) (o : Oper) : Prop :=
 ∃ nxt w' v', (execOp a.eval o).run C.P w = .ok nxt w' ∧ (nxt = .value v' ∨ (nxt = .skip ∧ v' = undef)) ∧
  ∃ m' I' lm', SRel C n m' I' w' lm' σ' (a.put o.dst v').tmps ∧ Step m I w σ.h lm σ.loc m' I' w' σ'.h lm' σ'.loc
theorem SRel.putD {e : Env} {dst : Option Nat} {x : AV} {v : Value} (hS : SRel C n m I w lm σ a.tmps) (hx : VRel m I w lm x v) (hp : Dv.putD n σ.env dst x = some e) :
  SRel C n m I w lm { σ with env := e } (a.put dst v).tmps := by
 unfold Dv.putD at hp
 cases dst with
 | none => simp at hp; subst hp; exact hS
 | some d =>
  simp only at hp
  split at hp
  ·rename_i hd
   simp at hp; subst hp
   exact hS.put hd hx
  ·cases hp
theorem SRel.dropD {dst : Option Nat} {v : Value} (hS : SRel C n m I w lm σ a.tmps) : SRel C n m I w lm { σ with env := Dv.dropD σ.env dst } (a.put dst v).tmps := by
 cases dst with
 | none => exact hS
 | some d => exact hS.drop d v
theorem frzV_sound : ∀ (k : Nat) {m : Nat → Nat → Option Nat} {I : Nat → Prop} {σ : St} {x : AV} {v : Value} {d : DV} {h' : Hp}, SRel C n m I w lm σ tmps → URel m I w x v → frzV k σ.h x = some (d, h') →
  ∃ I', SRel C n m I' w lm { σ with h := h' } tmps ∧ Step m I w σ.h lm σ.loc m I' w h' lm σ.loc ∧ DRel I' w d v := by
 intro k
 induction k with
 | zero => intro m I σ x v d h' _ _ hf; simp [frzV] at hf
 | succ k ih =>
  have rows : ∀ (xs : List AV) {m : Nat → Nat → Option Nat} {I : Nat → Prop} {σ : St} {vs : List Value} {ds : List DV} {h' : Hp}, SRel C n m I w lm σ tmps → URels m I w xs vs → frzL (frzV k) σ.h xs = some (ds, h') →
    ∃ I', SRel C n m I' w lm { σ with h := h' } tmps ∧ Step m I w σ.h lm σ.loc m I' w h' lm σ.loc ∧ ds.length = xs.length ∧ ∀ (i : Nat) x y, ds[i]? = some x → vs[i]? = some y → DRel I' w x y := by
   intro xs
   induction xs with
   | nil =>
    intro m I σ vs ds h' hS hu hf
    simp only [frzL, Option.some.injEq, Prod.mk.injEq] at hf
    obtain ⟨rfl, rfl⟩ := hf
    exact ⟨I, hS, Step.refl, rfl, fun i x y hx => by simp at hx⟩
   | cons x xs ihx =>
    intro m I σ vs ds h' hS hu hf
    simp only [frzL] at hf
    split at hf
    ·rename_i d h1 h1f
     split at hf
     ·rename_i ds' h2 h2f
      simp only [Option.some.injEq, Prod.mk.injEq] at hf
      obtain ⟨rfl, rfl⟩ := hf
      have hl := hu.1
      match vs, hl with
      | v :: vs, hl =>
       obtain ⟨I1, hS1, st1, hd1⟩ := ih hS (hu.2 0 x v rfl rfl) h1f
       have hu1 : URels m I1 w xs vs := ⟨by simpa using hl, fun i a b ha hb => (hu.2 (i + 1) a b (by simpa using ha) (by simpa using hb)).mono (MLe.refl m) st1.sub (WLe.refl w) (Keeps.refl I w)⟩
       obtain ⟨I2, hS2, st2, hl2, hd2⟩ := ihx (σ := { σ with h := h1 }) hS1 hu1 h2f
       refine ⟨I2, hS2, st1.trans st2, by simp [hl2], fun i a b ha hb => ?_⟩
       cases i with
       | zero => simp at ha hb; subst ha; subst hb; exact hd1.mono st2.sub (Keeps.refl I1 w)
       | succ i => exact hd2 i a b (by simpa using ha) (by simpa using hb)
     ·cases hf
    ·cases hf
  intro m I σ x v d h' hS hu hf
  simp only [frzV] at hf
  split at hf
  ·rename_i y
   simp only [Option.some.injEq, Prod.mk.injEq] at hf
   obtain ⟨rfl, rfl⟩ := hf
   exact ⟨I, hS, Step.refl, hu.toD⟩
  ·rename_i cs
   split at hf
   ·rename_i ds h1 h1f
    simp only [Option.some.injEq, Prod.mk.injEq] at hf
    obtain ⟨rfl, rfl⟩ := hf
    cases hu
    rename_i vs hlen hr
    obtain ⟨I1, hS1, st1, hl1, hd1⟩ := rows cs hS ⟨hlen, hr⟩ h1f
    exact ⟨I1, hS1, st1, .agg ds vs (by omega) hd1⟩
   ·cases hf
  ·rename_i id off len ver sz
   split at hf
   ·rename_i cs v0 hg
    split at hf
    ·rename_i hv
     subst hv
     split at hf
     ·rename_i r hr
      split at hf
      ·rename_i ds h1 h1f
       simp only [Option.some.injEq, Prod.mk.injEq] at hf
       obtain ⟨rfl, rfl⟩ := hf
       have hx : VRel m I w lm (.msl id off len v0 sz) v := .inr hu
       obtain ⟨b, cap, kk, hm, rfl, hlen, hk, hcap⟩ := hx.mslV
       obtain ⟨b', hb', hni, c, e, hblk, hsz, hcells⟩ := hS.rel.obj id _ hg
       simp only [Obj.ver] at hb'
       rw [hm] at hb'; cases hb'
       have hfree := hS.forgotten hg hm
       obtain ⟨hrl, hrget⟩ := takeExact_spec hr
       let f : Nat → Value := fun i => (w.cell? ⟨b, off + i, none⟩).getD undef
       have hcell : ∀ (i : Nat) x, r[i]? = some x → w.cell? ⟨b, off + i, none⟩ = some (f i) ∧ URel m I w x (f i) := fun i x hxi => by
        obtain ⟨y, hy, hu⟩ := hcells _ _ (hrget i _ hxi)
        have h2 : w.cell? ⟨b, off + i, none⟩ = some y := by rw [cell_of_block hblk]; exact hy
        simp only [f, h2, Option.getD_some]
        exact ⟨trivial, hu⟩
       have hur : URels m I w r ((List.range r.length).map f) := by
        refine ⟨by simp, fun i x y hx hy => ?_⟩
        have hi : i < r.length := (List.getElem?_eq_some_iff.1 hx).1
        simp [hi] at hy
        subst hy
        exact (hcell i x hx).2
       obtain ⟨I1, hS1, st1, hl1, hd1⟩ := rows r (σ := { σ with h := σ.h.del id }) (hS.forget id) hur h1f
       have hlt : b < w.heap.size := hS.rel.mlt _ _ _ hm
       have hfree1 : Free m I1 h1 lm σ.loc b := by
        refine ⟨fun h => ?_, fun h => ?_, hfree.l⟩
        ·rcases st1.newI b h with h2 | h2 | h2
         ·exact hfree.i h2
         ·omega
         ·exact hfree.t h2
        ·rcases st1.newT b h with h2 | h2
         ·exact hfree.t h2
         ·omega
       have hS2 := SRel.immut hS1 hfree1 (by rw [hk]; rfl)
       refine ⟨fun x => I1 x ∨ x = b, hS2, ?_, ?_⟩
       ·refine ⟨MLe.refl m, fun x hx => .inl (st1.sub x hx), WLe.refl w, fun _ _ _ _ => rfl, fun x hx => ?_, fun x hx => ?_, fun _ h => .inl h⟩
        ·rcases hx with hx | rfl
         ·rcases st1.newI x hx with h2 | h2 | h2
          ·exact .inl h2
          ·exact .inr (.inl h2)
          ·obtain ⟨i, o', ho', hi⟩ := h2
           simp only [Hp.del, del] at ho'
           split at ho'
           ·cases ho'
           ·exact .inr (.inr ⟨i, o', ho', hi⟩)
         ·exact .inr (.inr ⟨id, _, hg, hm⟩)
        ·rcases st1.newT x hx with h2 | h2
         ·obtain ⟨i, o', ho', hi⟩ := h2
          simp only [Hp.del, del] at ho'
          split at ho'
          ·cases ho'
          ·exact .inl ⟨i, o', ho', hi⟩
         ·exact .inr h2
       ·have hds : ∀ (i : Nat) x, ds[i]? = some x → w.cell? ⟨b, off + i, none⟩ = some (f i) ∧ DRel I1 w x (f i) := fun i x hxi => by
         have hi : i < r.length := by have := (List.getElem?_eq_some_iff.1 hxi).1; omega
         have h2 := hcell i r[i] (by simp [hi])
         exact ⟨h2.1, hd1 i x (f i) hxi (by simp [hi])⟩
        exact .imm ds len ⟨b, off, none⟩ cap f hlen (fun _ => ⟨.inr rfl, rfl⟩) (fun i x hxi => (hds i x hxi).1)
         (fun i x hxi => (hds i x hxi).2.mono (fun _ h => .inl h) (Keeps.refl I1 w))
      ·cases hf
     ·cases hf
    ·cases hf
   ·cases hf
  ·cases hf
theorem frzV_isL : ∀ {k : Nat} {h h' : Hp} {x : AV} {d : DV}, frzV k h x = some (d, h') → x.isL = false
 | 0, _, _, _, _, hf => by simp [frzV] at hf
 | k + 1, h, h', x, d, hf => by
  cases x <;> first | rfl | (simp [frzV] at hf)
theorem putV_sound {dst : Option Nat} {x : AV} {v : Value} (hS : SRel C n m I w lm σ a.tmps) (hx : VRel m I w lm x v) (hp : putV A n dst σ x = some σ') :
  ∃ I', SRel C n m I' w lm σ' (a.put dst v).tmps ∧ Step m I w σ.h lm σ.loc m I' w σ'.h lm σ'.loc := by
 unfold putV at hp
 cases dst with
 | none => simp at hp; subst hp; exact ⟨I, hS, Step.refl⟩
 | some d =>
  simp only at hp
  split at hp
  ·split at hp
   ·rename_i y h' hfz
    split at hp
    ·rename_i hd
     simp at hp; subst hp
     obtain ⟨I', hS2, st, hdr⟩ := frzV_sound 400 hS (hx.toU (frzV_isL hfz)) hfz
     exact ⟨I', hS2.put (x := .d y) hd (.inr (.d _ _ hdr)), st⟩
    ·cases hp
   ·cases hp
  ·split at hp
   ·rename_i hd
    simp at hp; subst hp
    exact ⟨I, hS.put hd hx, Step.refl⟩
   ·cases hp
/-- An operation that hands back a value. -/
theorem val_out {o : Oper} {x : AV} {v' : Value} (hS : SRel C n m I w lm σ a.tmps) (hrun : (execOp a.eval o).run C.P w = .ok (.value v') w') (hg : GrowI I w I' w')
  (hx : VRel m I' w' lm x v') (hp : applyEff A n o.dst σ (.val x) = some σ') : OpOut C n m I w lm σ σ' a o := by
 obtain ⟨I2, h1, h2⟩ := putV_sound (hS.grow hg) hx hp
 exact ⟨_, w', v', hrun, .inl rfl, m, I2, lm, h1, (Step.grow hg).trans h2⟩
theorem val_out0 {o : Oper} {x : AV} {v' : Value} (hS : SRel C n m I w lm σ a.tmps) (hrun : (execOp a.eval o).run C.P w = .ok (.value v') w)
  (hx : VRel m I w lm x v') (hp : applyEff A n o.dst σ (.val x) = some σ') : OpOut C n m I w lm σ σ' a o := val_out hS hrun (GrowI.refl I w) hx hp
/-- A new object of cells. -/
theorem newCells_out {o : Oper} {cs : List AV} {us : List Value} {len sz : Nat} {cv : Array Value} {e : TypeId} {w1 : World} {v' : Value} (hS : SRel C n m I w lm σ a.tmps)
  (hg : GrowI I w I w1) (hrun : (execOp a.eval o).run C.P w = .ok (.value v') (w1.alloc (.cells cv e))) (hr : URels m I w1 cs us) (hpre : us <+: cv.toList)
  (hv : ∃ cap, v' = .slice (some ⟨w1.heap.size, 0, none⟩) len cap ∧ len ≤ cap ∧ cap * sz ≤ cv.size)
  (hp : applyEff A n o.dst σ (.newCells cs len sz e) = some σ') : OpOut C n m I w lm σ σ' a o := by
 have hS1 := hS.grow hg
 have hfree := hS1.free_new
 have hg2 := GrowI.alloc I w1 (.cells cv e)
 have hS2 := hS1.grow hg2
 have hbl : (w1.alloc (.cells cv e)).heap[w1.heap.size]? = some (.cells cv e (0, 0)) := alloc_new w1 _
 have hr2 : URels (updM m σ.h.next 0 w1.heap.size) I (w1.alloc (.cells cv e)) cs us :=
  hr.mono (updM_le (.inl (hS1.rel.fr1 _ _ (Nat.le_refl _)))) (fun _ h => h) hg2.wle (fun b hb => hg2.old b (hS1.rel.iLt hb))
 have hlt : w1.heap.size < (w1.alloc (.cells cv e)).heap.size := by rw [alloc_size]; omega
 have hS3 := SRel.newObjE (e := e) (k := cv.size) hS2 (b := w1.heap.size) (o := .cells cs 0) hlt ⟨hfree.i, hfree.t, hfree.l⟩ rfl (CellsAt_of_prefix hbl hr2 hpre) (by unfold btype; rw [hbl])
 simp only [applyEff, Option.map_eq_some_iff] at hp
 obtain ⟨env, henv, rfl⟩ := hp
 have hself : updM m σ.h.next 0 w1.heap.size σ.h.next 0 = some w1.heap.size := by simp [updM]
 have hx : VRel (updM m σ.h.next 0 w1.heap.size) I (w1.alloc (.cells cv e)) lm (.msl σ.h.next 0 len 0 sz) v' := by
  obtain ⟨cap, rfl, h1, h2⟩ := hv
  exact .inr (.msl _ _ _ _ _ _ _ cv.size hself h1 (by unfold bsize; rw [hbl]) (by omega))
 have hS4 := SRel.putD (a := a) (dst := o.dst) hS3 hx henv
 refine ⟨_, _, v', hrun, .inl rfl, _, I, lm, hS4, ?_⟩
 have st := Step.newObj (o := .cells cs 0) hS1 hg2 (Nat.le_refl _)
 exact (Step.grow hg).trans ⟨st.mle, st.sub, st.wle, st.frame, st.newI, st.newT, st.newL⟩
/-- The type of an object's first block is told. -/
theorem SRel.typed {tmps : Array Value} (hS : SRel C n m I w lm σ tmps) {id b : Nat} {x : TypeId × Nat} (hb : m id 0 = some b) (hx : btype w b = some x) :
  SRel C n m I w lm { σ with h := { σ.h with ty := upd σ.h.ty id x } } tmps := by
 refine ⟨⟨hS.rel.obj, hS.rel.inj, hS.rel.lt, hS.rel.fr1, hS.rel.fr2, hS.rel.mlt, hS.rel.imm, hS.rel.glob, fun i t ht => ?_, hS.rel.el⟩, ⟨hS.loc.obj, hS.loc.inj⟩, hS.size, hS.env⟩
 simp only [upd] at ht
 split at ht
 ·rename_i hi; subst hi
  simp at ht; subst ht
  exact ⟨b, hb, hx⟩
 ·exact hS.rel.ty i t ht
theorem newVar_out {o : Oper} {cs : List AV} {us : List Value} {cv : Array Value} {e : TypeId} {w1 : World} {v' : Value} (hS : SRel C n m I w lm σ a.tmps)
  (hg : GrowI I w I w1) (hrun : (execOp a.eval o).run C.P w = .ok (.value v') (w1.alloc (.cells cv e))) (hr : URels m I w1 cs us) (hpre : us <+: cv.toList) (hsz : cv.size = cs.length)
  (hv : v' = .pointer (some ⟨w1.heap.size, 0, none⟩))
  (hp : applyEff A n o.dst σ (.newVar cs e) = some σ') : OpOut C n m I w lm σ σ' a o := by
 have hS1 := hS.grow hg
 have hfree := hS1.free_new
 have hg2 := GrowI.alloc I w1 (.cells cv e)
 have hS2 := hS1.grow hg2
 have hbl : (w1.alloc (.cells cv e)).heap[w1.heap.size]? = some (.cells cv e (0, 0)) := alloc_new w1 _
 have hr2 : URels (updM m σ.h.next 0 w1.heap.size) I (w1.alloc (.cells cv e)) cs us :=
  hr.mono (updM_le (.inl (hS1.rel.fr1 _ _ (Nat.le_refl _)))) (fun _ h => h) hg2.wle (fun b hb => hg2.old b (hS1.rel.iLt hb))
 have hlt : w1.heap.size < (w1.alloc (.cells cv e)).heap.size := by rw [alloc_size]; omega
 have hS3 := SRel.newObj hS2 (b := w1.heap.size) (o := .cells cs 0) hlt ⟨hfree.i, hfree.t, hfree.l⟩ rfl (CellsAt_of_prefix hbl hr2 hpre)
 simp only [applyEff, Option.map_eq_some_iff] at hp
 obtain ⟨env, he, rfl⟩ := hp
 have hself : updM m σ.h.next 0 w1.heap.size σ.h.next 0 = some w1.heap.size := by simp [updM]
 have hx : VRel (updM m σ.h.next 0 w1.heap.size) I (w1.alloc (.cells cv e)) lm (.ptr σ.h.next 0 0) v' := by
  subst hv; exact .inr (.ptr _ _ _ _ hself)
 have hS4 := SRel.typed (SRel.putD (a := a) (dst := o.dst) hS3 hx he) (id := σ.h.next) (x := (e, cs.length)) hself (by unfold btype; rw [hbl, ← hsz])
 refine ⟨_, _, v', hrun, .inl rfl, _, I, lm, hS4, ?_⟩
 have st := Step.newObj (o := .cells cs 0) hS1 hg2 (Nat.le_refl _)
 exact (Step.grow hg).trans ⟨st.mle, st.sub, st.wle, st.frame, st.newI, st.newT, st.newL⟩
/-- A new local block. -/
theorem newL_out {o : Oper} {cs : List AV} {cv : Array Value} {e : TypeId} (hS : SRel C n m I w lm σ a.tmps)
  (hrun : (execOp a.eval o).run C.P w = .ok (.value (.pointer (some ⟨w.heap.size, 0, none⟩))) (w.alloc (.cells cv e))) (hr : URels m I w cs cv.toList)
  (hp : applyEff A n o.dst σ (.newL cs) = some σ') : OpOut C n m I w lm σ σ' a o := by
 simp only [applyEff] at hp
 split at hp
 ·rename_i d hd
  split at hp
  ·rename_i hdn
   simp at hp; subst hp
   have hfree := hS.free_new
   have hg := GrowI.alloc I w (.cells cv e)
   have hS2 := (hS.grow hg).forgetL d
   have hbl : (w.alloc (.cells cv e)).heap[w.heap.size]? = some (.cells cv e (0, 0)) := alloc_new w _
   have hr2 : URels m I (w.alloc (.cells cv e)) cs cv.toList := hr.mono (MLe.refl m) (fun _ h => h) hg.wle (fun b hb => hg.old b (hS.rel.iLt hb))
   have hlt : w.heap.size < (w.alloc (.cells cv e)).heap.size := by rw [alloc_size]; omega
   have hS3 : SRel C n m I (w.alloc (.cells cv e)) lm { σ with env := noKey d σ.env, loc := del σ.loc d } a.tmps := hS2.sub rfl rfl (fun t x hx => (noKey_some hx).1)
   have hf3 : Free m I σ.h lm (del σ.loc d) w.heap.size := by
    refine ⟨hfree.i, hfree.t, ?_⟩
    rintro ⟨k, hk, hkb⟩
    simp only [del] at hk
    split at hk
    ·simp at hk
    ·exact hfree.l ⟨k, hk, hkb⟩
   have hS4 := SRel.addL hS3 (key := d) (b := w.heap.size) (cs := cs) (by simp [del]) hf3 hlt (fun t x hx o => (noKey_some hx).2 o) (CellsAt_of_new hbl hr2)
   have hupd : upd (del σ.loc d) d cs = upd σ.loc d cs := by funext k; simp only [upd, del]; split <;> rfl
   simp only [hupd] at hS4
   have hS5 := hS4.put (d := d) hdn (x := .lptr d 0) (v := .pointer (some ⟨w.heap.size, 0, none⟩)) (.inl ⟨d, 0, w.heap.size, rfl, by simp [upd], rfl⟩)
   refine ⟨_, _, _, hrun, .inl rfl, m, I, _, by rw [hd]; exact hS5, ?_⟩
   refine ⟨MLe.refl m, fun _ h => h, hg.wle, fun b hb _ _ => hg.old b hb, fun _ h => .inl h, fun _ h => .inl h, fun b hb => ?_⟩
   obtain ⟨k, hk, hkb⟩ := hb
   simp only [upd] at hk hkb
   split at hkb
   ·simp at hkb; right; omega
   ·rename_i hne
    rw [if_neg hne] at hk
    exact .inl ⟨k, hk, hkb⟩
  ·cases hp
 ·cases hp
end
end Go.Dv
/- Stores. -/
namespace Go.Dv
section
variable {C : Ctx} {A : FAnn} {n : Nat} {m m' : Nat → Nat → Option Nat} {I I' : Nat → Prop} {w w' : World} {lm lm' : Nat → Option Nat} {σ σ' : St} {tmps : Array Value} {a : Act}
theorem setRow_at {g : Nat} {cs : Array Value} {c : Array Value} {e : TypeId} (h : w.heap[g]? = some (.cells c e (0, 0))) : (w.setRow g cs).heap[g]? = some (.cells cs e (0, 0)) := by
 simp [World.setRow, Array.getElem?_modify, h]
theorem setRow_other {g x : Nat} {cs : Array Value} (h : x ≠ g) : (w.setRow g cs).heap[x]? = w.heap[x]? := by
 simp only [World.setRow, Array.getElem?_modify]
 rw [if_neg (fun h' => h h'.symm)]
theorem WLe.setRow {g : Nat} {cs : Array Value} {c : Array Value} {e : TypeId} (h : w.heap[g]? = some (.cells c e (0, 0))) (hs : cs.size = c.size) : WLe w (w.setRow g cs) := by
 refine ⟨rfl, rfl, rfl, by simp [World.setRow], fun b k hb => ?_⟩
 by_cases hbg : b = g
 ·subst hbg
  unfold btype at hb ⊢
  rw [h] at hb
  rw [setRow_at h]
  simp only [hs]; exact hb
 ·rw [btype_of_block (setRow_other hbg)]; exact hb
/-- A variable's cells, written into a row. -/
theorem store_run {P : Program} {t : TypeId} {i : TypeInfo} (hi : P.info? t = some i) {b off : Nat} {c : Array Value} {e : TypeId} {x : AV} {v : Value} (hx : URel m I w x v)
  (hsz : x.cells.length = i.size) (hone : x.cells.all AV.isCell = true) (hblk : w.heap[b]? = some (.cells c e (0, 0))) (hfit : off + x.cells.length ≤ c.size) :
  (storeVar t ⟨b, off, none⟩ v).run P w = .ok () (w.setRow b (putAt c.toList off v.cells.toList).toArray) ∧ v.cells.toList.length = x.cells.length := by
 have hc := cells_rel hx
 have hl : v.cells.size = x.cells.length := by have := hc.1; simpa using this
 have hones : ∀ y ∈ v.cells.toList, y.oneCell' = true := by
  intro y hy
  obtain ⟨k, hk⟩ := List.mem_iff_getElem?.1 hy
  have hk1 : k < x.cells.length := by have := (List.getElem?_eq_some_iff.1 hk).1; simp at this; omega
  have h1 := hc.2 k x.cells[k] y (by simp [hk1]) hk
  exact isCell_one h1 ((List.all_eq_true.1 hone) _ (List.getElem_mem hk1))
 have := run_storeCells_at (P := P) b off e v.cells.toList 0 c w hblk (by simp; omega) hones
 refine ⟨?_, by simpa using hl⟩
 have hne : ¬ (v.cells.size ≠ i.size) := by omega
 simp only [storeVar, Sem.run_bind, run_sizeOf_i w hi, Result.andThen_ok]
 rw [if_neg hne, this]
 simp [putAt]
theorem CellsAt.putAt {b off : Nat} {cs new : List AV} {vs : List Value} {c : Array Value} {e : TypeId} (hblk : w.heap[b]? = some (.cells (Dv.putAt c.toList off vs).toArray e (0, 0)))
  (hsz : cs.length ≤ c.size) (hold : ∀ (i : Nat) x, cs[i]? = some x → ∃ y, c[i]? = some y ∧ URel m I w x y) (hnew : URels m I w new vs) (hfit : off + new.length ≤ cs.length) :
  CellsAt m I w b (Dv.putAt cs off new) := by
 have hl := hnew.1
 refine ⟨_, e, hblk, by rw [putAt_length hfit]; simp [putAt_length (l := c.toList) (new := vs) (off := off) (by simp; omega)]; exact hsz, fun i x hx => ?_⟩
 rw [putAt_get hfit] at hx
 have hget : (Dv.putAt c.toList off vs).toArray[i]? = (Dv.putAt c.toList off vs)[i]? := by simp
 rw [hget, putAt_get (by simp; omega), hl]
 split at hx
 ·rename_i hi
  rw [if_pos hi]
  have hlt : i - off < vs.length := by omega
  exact ⟨vs[i - off], by simp [hlt], hnew.2 _ x _ hx (by simp [hlt])⟩
 ·rename_i hi
  rw [if_neg hi]
  obtain ⟨y, hy, hu⟩ := hold i x hx
  exact ⟨y, by simpa using hy, hu⟩
/-- A store. -/
theorem storeA_out {o : Oper} {t : TypeId} {px vx : Operand} {p x : AV} {eff : Eff} (hC : COk C) (hop : o.op = .store t px vx) (hS : SRel C n m I w lm σ a.tmps)
  (hp : VRel m I w lm p (a.eval px)) (hx : VRel m I w lm x (a.eval vx)) (he : storeA C σ.loc σ.h.get t p x = some eff) (hap : applyEff A n o.dst σ eff = some σ') : OpOut C n m I w lm σ σ' a o := by
 unfold storeA at he
 split at he
 ·cases he
 ·rename_i ti hti
  simp only at he
  split at he
  ·cases he
  ·rename_i hcond
   simp only [not_or, Decidable.not_not, Bool.not_eq_true', Bool.not_eq_false, Bool.not_eq_true] at hcond
   obtain ⟨hsz, hl, hone⟩ := hcond
   obtain ⟨i, hi, hisz, _⟩ := T_info hC hti
   have hxu := hx.toU hl
   split at he
   ·rename_i key off
    split at he
    ·rename_i cs hcs
     split at he
     ·rename_i hfit
      simp only [Option.some.injEq] at he; subst he
      obtain ⟨b, hb, hpv⟩ := hp.lptrV
      obtain ⟨b', hb', hlt, hni, hnt, c, e, hblk, hcsz, hcells⟩ := hS.loc.obj key cs hcs
      rw [hb] at hb'; cases hb'
      obtain ⟨hrun, hvl⟩ := store_run (P := C.P) (off := off) hi hxu (by omega) hone hblk (by omega)
      simp only [applyEff, Option.some.injEq] at hap; subst hap
      have hw := WLe.setRow (cs := (putAt c.toList off (a.eval vx).cells.toList).toArray) hblk (by simp [putAt_length (l := c.toList) (off := off) (new := (a.eval vx).cells.toList) (by simp at *; omega)])
      have hfree := hS.forgottenL hcs hb
      have hS2 := (hS.forgetL key)
      have hS2' : SRel C n m I w lm { σ with env := σ.env, loc := del σ.loc key } a.tmps := hS2
      have hS3 := SRel.wild hS2' hfree hw (fun y hy _ => setRow_other hy)
      refine ⟨.skip, w.setRow b (putAt c.toList off (a.eval vx).cells.toList).toArray, undef, ?_, .inr ⟨rfl, rfl⟩, m, I, lm, ?_, ?_⟩
      ·simp only [execOp, hop, Instr.storeAt, hpv, Instr.sureAddr, Sem.run_bind, Sem.run_pure, Result.andThen_ok, hrun]
      ·skip
       have hk : Keeps I w (w.setRow b (putAt c.toList off (a.eval vx).cells.toList).toArray) := fun y hy => setRow_other (fun h => hni (h ▸ hy))
       have hcr := (cells_rel hxu).mono (MLe.refl m) (fun _ h => h) hw hk
       have hca : CellsAt m I (w.setRow b (putAt c.toList off (a.eval vx).cells.toList).toArray) b (putAt cs off x.cells) :=
        CellsAt.putAt (setRow_at hblk) hcsz (fun j y hy => let ⟨z, hz, hu⟩ := hcells j y hy; ⟨z, hz, hu.mono (MLe.refl m) (fun _ h => h) hw hk⟩) hcr hfit
       refine SRel.dropD (σ := { σ with loc := upd σ.loc key (putAt cs off x.cells) }) ⟨hS3.rel, ⟨fun k cs' hcs' => ?_, fun k k' c' hk1 hk2 h1 h2 => ?_⟩, hS3.size, hS3.env⟩
       ·simp only [upd] at hcs'
        split at hcs'
        ·rename_i hkk; subst hkk
         simp at hcs'; subst hcs'
         exact ⟨b, hb, Nat.lt_of_lt_of_le hlt hw.size, hni, hnt, hca⟩
        ·rename_i hkk
         exact hS3.loc.obj k cs' (by simpa [del, hkk] using hcs')
       ·refine hS.loc.inj k k' c' ?_ ?_ h1 h2
        ·simp only [upd] at hk1; split at hk1
         ·rename_i hkk; subst hkk; rw [hcs]; rfl
         ·exact hk1
        ·simp only [upd] at hk2; split at hk2
         ·rename_i hkk; subst hkk; rw [hcs]; rfl
         ·exact hk2
      ·refine ⟨MLe.refl m, fun _ h => h, hw, fun y hy _ hnl => setRow_other (fun h => hnl ⟨key, by rw [hcs]; rfl, h ▸ hb⟩), fun _ h => .inl h, fun _ h => .inl h, fun y hy => ?_⟩
       obtain ⟨k, hk, hkb⟩ := hy
       left
       simp only [upd] at hk
       split at hk
       ·rename_i hkk; subst hkk; exact ⟨k, by rw [hcs]; rfl, hkb⟩
       ·exact ⟨k, hk, hkb⟩
     ·cases he
    ·cases he
   ·rename_i id off ver
    split at he
    ·rename_i cs v0 hg
     split at he
     ·rename_i hfit
      obtain ⟨rfl, hfit⟩ := hfit
      simp only [Option.some.injEq] at he; subst he
      obtain ⟨b, hb, hpv⟩ := hp.ptrV
      obtain ⟨b', hb', hni, c, e, hblk, hcsz, hcells⟩ := hS.rel.obj id _ hg
      simp only [Obj.ver] at hb'
      rw [hb] at hb'; cases hb'
      obtain ⟨hrun, hvl⟩ := store_run (P := C.P) (off := off) hi hxu (by omega) hone hblk (by omega)
      simp only [applyEff, Option.some.injEq] at hap; subst hap
      have hw := WLe.setRow (cs := (putAt c.toList off (a.eval vx).cells.toList).toArray) hblk (by simp [putAt_length (l := c.toList) (off := off) (new := (a.eval vx).cells.toList) (by simp at *; omega)])
      have hfree := hS.forgotten hg hb
      have hS3 := SRel.wild (hS.forget id) hfree hw (fun y hy _ => setRow_other hy)
      have hk : Keeps I w (w.setRow b (putAt c.toList off (a.eval vx).cells.toList).toArray) := fun y hy => setRow_other (fun h => hni (h ▸ hy))
      have hcr := (cells_rel hxu).mono (MLe.refl m) (fun _ h => h) hw hk
      have hca : CellsAt m I (w.setRow b (putAt c.toList off (a.eval vx).cells.toList).toArray) b (putAt cs off x.cells) :=
       CellsAt.putAt (setRow_at hblk) hcsz (fun j y hy => let ⟨z, hz, hu⟩ := hcells j y hy; ⟨z, hz, hu.mono (MLe.refl m) (fun _ h => h) hw hk⟩) hcr hfit
      have hm1 : updM m id v0 b = m := by
       funext i' v'; unfold updM; split
       ·rename_i hc; obtain ⟨rfl, rfl⟩ := hc; exact hb.symm
       ·rfl
      have hlt : b < w.heap.size := hS.rel.mlt _ _ _ hb
      have hS4 := SRel.add hS3 (id := id) (b := b) (o := .cells (putAt cs off x.cells) v0) (nx := σ.h.next) (by simp [Hp.del, del]) hfree (Nat.lt_of_lt_of_le hlt hw.size)
       (Nat.le_refl _) (hS.rel.lt _ _ hg) (.inr hb) (fun v hv => hS.rel.fr2 id _ v hg hv) (by simp only [Obj.ver]; rw [hm1]; exact hca) σ.h.el (fun _ _ => rfl)
       (fun e he => let ⟨b1, k1, h4, h5⟩ := hS.rel.el id _ e hg he; ⟨k1, by have h6 := hb; simp only [Obj.ver] at h4; rw [h6] at h4; cases h4; exact hw.bt _ _ h5⟩)
      simp only [Obj.ver] at hS4
      rw [hm1] at hS4
      have hh : ({ next := σ.h.next, get := upd (σ.h.del id).get id (.cells (putAt cs off x.cells) v0), ty := (σ.h.del id).ty, el := σ.h.el } : Hp) = σ.h.set id (.cells (putAt cs off x.cells) v0) := by
       simp only [Hp.set, Hp.del, Hp.mk.injEq, true_and, and_true]
       funext k; simp only [upd, Hp.del, del]; split <;> rfl
      simp only [hh] at hS4
      refine ⟨.skip, w.setRow b (putAt c.toList off (a.eval vx).cells.toList).toArray, undef, ?_, .inr ⟨rfl, rfl⟩, m, I, lm, SRel.dropD hS4, ?_⟩
      ·simp only [execOp, hop, Instr.storeAt, hpv, Instr.sureAddr, Sem.run_bind, Sem.run_pure, Result.andThen_ok, hrun]
      ·refine ⟨MLe.refl m, fun _ h => h, hw, fun y hy hnt _ => setRow_other (fun h => hnt ⟨id, _, hg, h ▸ hb⟩), fun _ h => .inl h, fun y hy => ?_, fun _ h => .inl h⟩
       obtain ⟨k, o', ho', hkm⟩ := hy
       simp only [Hp.set, upd] at ho'
       split at ho'
       ·rename_i hkk; subst hkk
        simp at ho'; subst ho'
        exact .inl ⟨k, _, hg, hkm⟩
       ·exact .inl ⟨k, o', ho', hkm⟩
     ·cases he
    ·cases he
   ·cases he
end
end Go.Dv
/- append. -/
namespace Go.Dv
section
variable {C : Ctx} {A : FAnn} {n : Nat} {m m' : Nat → Nat → Option Nat} {I I' : Nat → Prop} {w w' : World} {lm lm' : Nat → Option Nat} {σ σ' : St} {tmps : Array Value} {a : Act}
def isIntD : TypeDesc → Bool
 | .int _ => true
 | _ => false
theorem growBy_le (k : Nat) : ∀ (r c : Nat), Builtin.growBy k r c ≤ max c (2 * k + 192)
 | 0, c => by simp [Builtin.growBy]; omega
 | r + 1, c => by
  simp only [Builtin.growBy]
  split
  ·omega
  ·have := growBy_le k r (c + (c + 768) / 4)
   omega
theorem nextslicecap_le {need old : Nat} (h : old < need) : Builtin.nextslicecap need old ≤ 2 * need + 600 := by
 unfold Builtin.nextslicecap
 split
 ·omega
 ·split
  ·omega
  ·have := growBy_le need 4 old
   omega
/-- The cells that are appended, and their number. -/
theorem elems_run (hR : Rel m I w C σ.h) {x : AV} {v : Value} {k sz : Nat} {new : List AV} (hx : VRel m I w lm x v) (hl : lenA σ.h.get x = some k) (he : elemsOf σ.h.get sz x = some new) (hn : new.length = k * sz) :
  (Builtin.lenOf v).run C.P w = .ok k w ∧ ∃ nv : Array Value, (∀ w' : World, (∀ ad, w'.cell? ad = w.cell? ad) → (Builtin.firstCells sz k v).run C.P w' = .ok nv w') ∧ URels m I w new nv.toList := by
 unfold elemsOf at he
 split at he
 ·simp at he; subst he
  have := hx.nilsV; subst this
  simp [lenA] at hl; subst hl
  exact ⟨by simp [Builtin.lenOf], #[], fun w' _ => by simp [Builtin.firstCells], rfl, fun i a b ha => by simp at ha⟩
 ·rename_i cs len
  split at he
  ·rename_i r hr
   simp only [Option.some.injEq] at he; subst he
   simp only [lenA, Option.some.injEq] at hl; subst hl
   obtain ⟨ad, cap, vs, rfl, hlen, hI, hc, hd⟩ := hx.immV
   obtain ⟨hrl, hrget⟩ := takeExact_spec hr
   refine ⟨by simp [Builtin.lenOf], ?_⟩
   have hload : ∀ j, j < len * sz → w.cell? (ad.add j) = some (vs j) := by
    intro j hj
    have h1 : r[j]? = some r[j] := by simp [hrl, hj]
    have h2 := hrget j _ h1
    simp only [Nat.zero_add] at h2
    have hne : cs ≠ [] := by rintro rfl; simp at h2
    obtain ⟨b, off, sp⟩ := ad
    have := (hI hne).2
    simp only at this
    subst this
    rw [add_none]
    exact hc j _ h2
   refine ⟨_, fun w' hw' => by simp only [Builtin.firstCells]; exact run_loadCells w' ad (len * sz) vs (fun j hj => (hw' _).trans (hload j hj)), ?_, fun i y z hy hz => ?_⟩
   ·simp [hrl]
   ·simp only [List.getElem?_map, Option.map_eq_some_iff] at hy
    obtain ⟨y', hy', rfl⟩ := hy
    have hi : i < len * sz := by have := (List.getElem?_eq_some_iff.1 hy').1; omega
    simp [hi] at hz
    subst hz
    have h2 := hrget i _ hy'
    simp only [Nat.zero_add] at h2
    exact .d _ _ (hd i _ h2)
  ·cases he
 ·rename_i s
  split at he
  ·rename_i hsz; subst hsz
   simp only [Option.some.injEq] at he; subst he
   simp only [lenA, Option.some.injEq] at hl; subst hl
   have := hx.strV; subst this
   refine ⟨by simp only [Builtin.lenOf, Sem.run_pure]; rfl, Array.map (fun b => Value.int IntKind.u8 ↑b.toNat) ((⟨⟨s⟩⟩ : ByteArray).extract 0 s.length).data, fun w' _ => by simp only [Builtin.firstCells, Sem.run_pure], ?_, fun i y z hy hz => ?_⟩
   ·simp [ByteArray.data_extract]
   ·simp only [List.getElem?_map, Option.map_eq_some_iff] at hy
    obtain ⟨y', hy', rfl⟩ := hy
    have hi : i < s.length := (List.getElem?_eq_some_iff.1 hy').1
    have hz2 : z = .int .u8 y'.toNat := by
     have hsi : s[i] = y' := (List.getElem?_eq_some_iff.1 hy').2
     simp [ByteArray.data_extract, hi] at hz
     rw [← hz, hsi]
    rw [hz2]
    exact .d _ _ (.int _ _)
  ·cases he
 ·rename_i id off len ver sz'
  split at he
  ·rename_i cs v0 hg
   split at he
   ·rename_i hc0
    obtain ⟨rfl, rfl⟩ := hc0
    simp only [lenA, Option.some.injEq] at hl; subst hl
    obtain ⟨b, cap, k2, hm, rfl, hlen, hk2, hcap⟩ := hx.mslV
    obtain ⟨b', hb', hni, c, e, hblk, hcsz, hcells⟩ := hR.obj id _ hg
    simp only [Obj.ver] at hb'
    rw [hm] at hb'; cases hb'
    obtain ⟨hrl, hrget⟩ := takeExact_spec he
    refine ⟨by simp [Builtin.lenOf], ?_⟩
    have hload : ∀ j, j < len * sz' → w.cell? ((⟨b, off, none⟩ : Addr).add j) = some ((w.cell? ⟨b, off + j, none⟩).getD undef) := by
     intro j hj
     rw [add_none]
     obtain ⟨y, hy, _⟩ := hcells _ _ (hrget j new[j] (by simp [hrl, hj]))
     rw [cell_of_block hblk, hy]; rfl
    refine ⟨_, fun w' hw' => by simp only [Builtin.firstCells]; exact run_loadCells w' _ (len * sz') (fun j => (w.cell? ⟨b, off + j, none⟩).getD undef) (fun j hj => (hw' _).trans (hload j hj)), ?_, fun i y z hy hz => ?_⟩
    ·simp [hrl]
    ·have hi : i < len * sz' := by have := (List.getElem?_eq_some_iff.1 hy).1; omega
     simp [hi] at hz
     subst hz
     obtain ⟨y2, hy2, hu⟩ := hcells _ _ (hrget i y hy)
     rw [cell_of_block hblk, hy2]; exact hu
   ·cases he
  ·cases he
 ·cases he
theorem appendable_spec (hC : COk C) {t2 : TypeId} {ti : TI} (h : C.T t2 = some ti) (ha : appendable ti.k = true) :
  ∃ d, C.P.underlying t2 = some d ∧ isIntD d = false := by
 obtain ⟨d, hd, hk, _⟩ := (hC _ _ h).und
 refine ⟨d, hd, ?_⟩
 cases htk : ti.k <;> rw [htk] at ha hk <;> simp [appendable] at ha <;> cases d <;> simp [KOk] at hk <;> rfl
theorem URels.append {xs ys : List AV} {us vs : List Value} (h1 : URels m I w xs us) (h2 : URels m I w ys vs) : URels m I w (xs ++ ys) (us ++ vs) := by
 refine ⟨by simp [h1.1, h2.1], fun i a b ha hb => ?_⟩
 by_cases hi : i < xs.length
 ·rw [List.getElem?_append_left hi] at ha
  rw [List.getElem?_append_left (by rw [h1.1]; exact hi)] at hb
  exact h1.2 i a b ha hb
 ·rw [List.getElem?_append_right (by omega)] at ha
  rw [List.getElem?_append_right (by rw [h1.1]; omega), h1.1] at hb
  exact h2.2 _ a b ha hb
/-- The object's next version. -/
theorem SRel.next (hS : SRel C n m I w lm σ tmps) {id b b' : Nat} {cs new : List AV} {ver : Nat} (hg : σ.h.get id = some (.cells cs ver)) (hb : m id ver = some b)
  (hw : WLe w w') (hk : ∀ x, x ≠ b → x < w.heap.size → w'.heap[x]? = w.heap[x]?) (hlt : b' < w'.heap.size) (hb' : b' = b ∨ w.heap.size ≤ b')
  (ho : CellsAt (updM m id (ver + 1) b') I w' b' new) {e : TypeId} (hel : σ.h.el id = some e → ∃ k, btype w' b' = some (e, k)) :
  SRel C n (updM m id (ver + 1) b') I w' lm { σ with h := { σ.h.set id (.cells new (ver + 1)) with el := σ.h.keepEl id e } } tmps ∧
   Step m I w σ.h lm σ.loc (updM m id (ver + 1) b') I w' { σ.h.set id (.cells new (ver + 1)) with el := σ.h.keepEl id e } lm σ.loc := by
 have hfree := hS.forgotten hg hb
 have hS3 := SRel.wild (hS.forget id) hfree hw hk
 have hmn : m id (ver + 1) = none := hS.rel.fr2 id _ (ver + 1) hg (by simp [Obj.ver])
 have hf' : Free m I (σ.h.del id) lm σ.loc b' := by
  rcases hb' with rfl | hb'
  ·exact hfree
  ·refine ⟨fun h => ?_, fun h => ?_, ?_⟩
   ·exact absurd (hS.rel.iLt h) (by omega)
   ·exact absurd ((hS.forget id).rel.tchLt h) (by omega)
   ·rintro ⟨k, hk1, hk2⟩
    obtain ⟨cs', hcs'⟩ := Option.isSome_iff_exists.1 hk1
    obtain ⟨c, hc, hlt', _⟩ := hS.loc.obj k cs' hcs'
    rw [hk2] at hc; cases hc
    omega
 have hS4 := SRel.add hS3 (id := id) (b := b') (o := .cells new (ver + 1)) (nx := σ.h.next) (by simp [Hp.del, del]) hf' hlt
  (Nat.le_refl _) (hS.rel.lt _ _ hg) (.inl hmn) (fun v hv => hS.rel.fr2 id _ v hg (by simp only [Obj.ver] at hv ⊢; omega)) ho (σ.h.keepEl id e)
  (fun i hi => by simp only [Hp.keepEl]; split <;> simp [del, hi, Hp.del]) (fun e' he' => by
   simp only [Hp.keepEl] at he'
   split at he'
   ·rename_i h0; rw [h0] at he'; cases he'; exact hel h0
   ·simp [del] at he')
 have hh : ({ next := σ.h.next, get := upd (σ.h.del id).get id (.cells new (ver + 1)), ty := (σ.h.del id).ty, el := σ.h.keepEl id e } : Hp) = { σ.h.set id (.cells new (ver + 1)) with el := σ.h.keepEl id e } := by
  simp only [Hp.set, Hp.del, Hp.mk.injEq, true_and, and_true]
  funext k; simp only [upd, Hp.del, del]; split <;> rfl
 simp only [hh] at hS4
 refine ⟨hS4, updM_le (.inl hmn), fun _ h => h, hw, fun y hy hnt _ => hk y (fun h => hnt ⟨id, _, hg, h ▸ hb⟩) hy, fun _ h => .inl h, fun y hy => ?_, fun _ h => .inl h⟩
 obtain ⟨k, o', ho', hkm⟩ := hy
 simp only [Hp.set, upd] at ho'
 unfold updM at hkm
 split at hkm
 ·simp only [Option.some.injEq] at hkm
  rcases hb' with h1 | h1
  ·left; exact ⟨id, _, hg, by rw [← hkm, h1]; exact hb⟩
  ·right; omega
 ·rename_i hc
  split at ho'
  ·rename_i hkk; subst hkk
   simp at ho'; subst ho'
   simp [Obj.ver] at hc
  ·exact .inl ⟨k, o', ho', hkm⟩
section
variable {P : Program} {at_ : Array TypeId} {ty t tt e : TypeId} {ie : TypeInfo} {d2 : TypeDesc} {base : Option Addr} {sLen sCap k : Nat} {xv : Value} {nv : Array Value}
theorem run_app_room (h0 : at_[0]? = some t) (h1 : at_[1]? = some tt) (hu : P.underlying t = some (.slice e)) (hie : P.info? e = some ie) (hd2 : P.underlying tt = some d2) (hi2 : isIntD d2 = false)
  (hlo : (Builtin.lenOf xv).run P w = .ok k w) (hfc : (Builtin.firstCells ie.size k xv).run P w = .ok nv w) (hroom : sLen + k ≤ sCap) :
  (Builtin.append_ at_ ty #[.slice base sLen sCap, xv]).run P w =
   (match base with | some ad => (storeCells (ad.add (sLen * ie.size)) nv.toList).run P w | none => .ok () w).andThen fun _ w' => .ok (.slice base (sLen + k) sCap) w' := by
 unfold Builtin.append_
 simp only [h0, h1, List.getElem?_toArray, List.getElem?_cons_zero, List.getElem?_cons_succ, Sem.run_bind, run_underlying hu, Result.andThen_ok, run_sizeOf_i w hie, run_underlying hd2, Sem.run_pure]
 cases d2 <;> simp [isIntD] at hi2 <;> simp only [Bool.false_eq_true, if_false, hlo, Result.andThen_ok, hroom, if_true, Bool.not_false, hfc, Sem.run_bind] <;> cases base <;> simp [Sem.run_pure]
theorem run_app_grow {z : Value} (h0 : at_[0]? = some t) (h1 : at_[1]? = some tt) (hu : P.underlying t = some (.slice e)) (hie : P.info? e = some ie) (hz : ie.zero = some z) (hd2 : P.underlying tt = some d2) (hi2 : isIntD d2 = false)
  (hlo : (Builtin.lenOf xv).run P w = .ok k w) (hfc : ∀ w' : World, (∀ ad, w'.cell? ad = w.cell? ad) → (Builtin.firstCells ie.size k xv).run P w' = .ok nv w') (hroom : ¬ sLen + k ≤ sCap) (hb : ie.bytes ≤ 2 ^ 16) (hn : sLen + k ≤ 2 ^ 44) (hnb : (sLen + k) * ie.bytes ≤ 2 ^ 44)
  {ov : Array Value} (hov : ∀ w' : World, (∀ ad, w'.cell? ad = w.cell? ad) → (Builtin.firstCells ie.size sLen (.slice base sLen sCap)).run P w' = .ok ov w') :
  ∃ cap, sLen + k ≤ cap ∧ (Builtin.append_ at_ ty #[.slice base sLen sCap, xv]).run P w =
   .ok (.slice (some ⟨w.heap.size, 0, none⟩) (sLen + k) cap) ({ w with drawn := w.drawn + 1 }.alloc (.cells (ov ++ nv ++ Builtin.zeroCells z.cells (cap - (sLen + k))) e)) := by
 have hcap1 := nextslicecap_le (need := sLen + k) (old := sCap) (by omega)
 have hcap2 : ¬ Builtin.nextslicecap (sLen + k) sCap * ie.bytes > 2 ^ 48 := by
  have h1 : Builtin.nextslicecap (sLen + k) sCap * ie.bytes ≤ (2 * (sLen + k) + 600) * ie.bytes := Nat.mul_le_mul_right _ hcap1
  have h2 : (2 * (sLen + k) + 600) * ie.bytes = 2 * ((sLen + k) * ie.bytes) + 600 * ie.bytes := by rw [Nat.add_mul, Nat.mul_assoc]
  omega
 have hpan : ¬ (((sLen + k : Nat) : Int) > IntKind.i64.max ∧ (False ∨ ie.bytes = 0)) := by
  rintro ⟨h, _⟩
  have : IntKind.i64.max = 9223372036854775807 := rfl
  rw [this] at h
  omega
 refine ⟨(Question.appendCap (sLen + k) sCap e).cut (w.tape w.drawn (.appendCap (sLen + k) sCap e)), by simp [Question.cut], ?_⟩
 have hfc' := hfc { w with drawn := w.drawn + 1 } (fun _ => rfl)
 have hov' := hov { w with drawn := w.drawn + 1 } (fun _ => rfl)
 have hzr : (zeroValue e).run P { w with drawn := w.drawn + 1 } = .ok z { w with drawn := w.drawn + 1 } := run_zero_i _ hie hz
 have hti : ∀ w' : World, (typeInfo e).run P w' = .ok ie w' := fun w' => by simp [typeInfo, hie]
 unfold Builtin.append_
 simp only [h0, h1, List.getElem?_toArray, List.getElem?_cons_zero, List.getElem?_cons_succ, Sem.run_bind, run_underlying hu, Result.andThen_ok, run_sizeOf_i w hie, run_underlying hd2, Sem.run_pure]
 cases d2 <;> simp [isIntD] at hi2 <;>
  simp only [Bool.false_eq_true, if_false, hlo, Result.andThen_ok, hroom, Bool.not_false, if_true, Sem.run_bind, hti, hpan, hcap2, run_choose, Question.forced, run_askRoom, hov', hfc', hzr, newRow, run_newObj, Sem.run_pure] <;> rfl
end
theorem appendA_out {o : Oper} {c : Call} {x0 x1 : Operand} {t : TypeId} {s x : AV} {eff : Eff} (hC : COk C) (hop : o.op = .call c) (hcal : c.callee = .builtin .append) (hargs : c.args = #[x0, x1])
  (ht : c.argTypes[0]? = some t) (hS : SRel C n m I w lm σ a.tmps) (hs : VRel m I w lm s (a.eval x0)) (hx : VRel m I w lm x (a.eval x1))
  (he : appendA C σ.h.get t c.argTypes[1]? s x = some eff) (hap : applyEff A n o.dst σ eff = some σ') : OpOut C n m I w lm σ σ' a o := by
 have hexec : ∀ {v : Value} {w1 : World}, (Builtin.append_ c.argTypes o.type #[a.eval x0, a.eval x1]).run C.P w = .ok v w1 → (execOp a.eval o).run C.P w = .ok (.value v) w1 := by
  intro v w1 hv
  simp [execOp, hop, resolve, hcal, hargs, invoke, builtin, hv]
 unfold appendA at he
 split at he
 ·rename_i e _ _ _ _ t2i hti ht2
  have hu := T_slice hC hti
  split at he
  ·cases he
  ·rename_i ei hei
   obtain ⟨ie, hie, hsz, hby⟩ := T_info hC hei
   split at he
   ·rename_i k new hlen hel
    split at he
    ·cases he
    ·rename_i hcond
     simp only [not_or, Bool.not_eq_true', Bool.not_eq_false, Nat.not_lt, Decidable.not_not, Bool.not_eq_true] at hcond
     obtain ⟨hcell, hk, hkb, hbytes, happ, hnl⟩ := hcond
     cases ht2' : c.argTypes[1]? with
     | none => simp [ht2'] at ht2
     | some tt =>
      simp only [ht2', Option.bind_some] at ht2
      obtain ⟨d2, hd2, hdi⟩ := appendable_spec hC ht2 happ
      obtain ⟨hlo, nv, hfc, hnew⟩ := elems_run (σ := σ) hS.rel hx hlen hel hnl
      have hnvl : nv.size = new.length := by have := hnew.1; simpa using this
      obtain ⟨ie', hie', _, _, hzero, _⟩ := (hC _ _ hei).info
      rw [hie] at hie'; cases hie'
      have hzsz : ∀ z, ie.zero = some z → z.cells.size = ie.size := by
       intro z hz
       obtain ⟨z', hz', _, h3, _⟩ := zero_cells (m := m) (I := I) (w := w) hC hei
       have h4 := hz' w
       rw [run_zero_i w hie hz] at h4
       cases h4
       omega
      rw [← hsz] at hfc
      split at he
      ·have hev := hs.nilsV
       split at he
       ·rename_i hk0
        subst hk0
        simp only [Option.some.injEq] at he; subst he
        have hrun := run_app_room (ty := o.type) (base := none) (sLen := 0) (sCap := 0) ht ht2' hu hie hd2 hdi hlo (hfc w (fun _ => rfl)) (by omega)
        simp only [Result.andThen_ok] at hrun
        exact val_out0 hS (hexec (by rw [hev]; exact hrun)) (.inr (.d _ _ .nilslice)) hap
       ·rename_i hk0
        simp only [Option.some.injEq] at he; subst he
        obtain ⟨cap, hcap, hrun⟩ := run_app_grow (ty := o.type) (base := none) (sLen := 0) (sCap := 0) (ov := #[]) ht ht2' hu hie hzero hd2 hdi hlo hfc (by omega) (by omega) (by omega) (by rw [hby, Nat.zero_add]; exact hkb)
         (fun w' _ => by simp [Builtin.firstCells])
        refine newCells_out hS (GrowI.drew I w) (hexec (by rw [hev]; exact hrun)) (us := nv.toList) (hnew.mono (MLe.refl m) (fun _ h => h) (GrowI.drew I w).wle (Keeps.refl I w)) ?_ ?_ hap
        ·simp
        ·refine ⟨cap, by simp, by omega, ?_⟩
         simp only [Array.size_append, Builtin.zeroCells, Array.size_map, Array.size_range, hzsz _ hzero, hnvl, hnl, hsz, Array.size_empty]
         have : cap * ei.size = k * ei.size + (cap - k) * ei.size := by rw [← Nat.add_mul]; congr 1; omega
         simp only [Nat.zero_add]
         omega
      ·rename_i id off len ver sz
       split at he
       ·rename_i cs v0 hg
        split at he
        ·rename_i hc0
         obtain ⟨rfl, rfl, rfl, hfit, hbig, hbigb⟩ := hc0
         simp only [Option.some.injEq] at he; subst he
         obtain ⟨b, cap, bs, hm, hev, hlc, hbs, hcapb⟩ := hs.mslV
         obtain ⟨b', hb', hni, cc, ce, hblk, hcsz, hcells⟩ := hS.rel.obj id _ hg
         simp only [Obj.ver] at hb'
         rw [hm] at hb'; cases hb'
         have hbsz : bs = cc.size := by unfold bsize at hbs; rw [hblk] at hbs; simpa using hbs.symm
         have hlt : b < w.heap.size := hS.rel.mlt _ _ _ hm
         by_cases hroom : len + k ≤ cap
         ·skip
          have hrun := run_app_room (ty := o.type) (base := some ⟨b, 0, none⟩) (sLen := len) (sCap := cap) ht ht2' hu hie hd2 hdi hlo (hfc w (fun _ => rfl)) hroom
          have hno : ∀ y ∈ nv.toList, y.oneCell' = true := by
           intro y hy
           obtain ⟨j, hj⟩ := List.mem_iff_getElem?.1 hy
           have hj1 : j < new.length := by have := (List.getElem?_eq_some_iff.1 hj).1; simp at this; omega
           exact isCell_one (hnew.2 j new[j] y (by simp [hj1]) hj) ((List.all_eq_true.1 hcell) _ (List.getElem_mem hj1))
          have hfit2 : len * ei.size + nv.toList.length ≤ cc.size := by
           have : (len + k) * ei.size ≤ cap * ei.size := Nat.mul_le_mul_right _ hroom
           rw [Nat.add_mul] at this
           simp only [Array.length_toList]
           omega
          have hst := run_storeCells_at (P := C.P) b (len * ei.size) ce nv.toList 0 cc w hblk (by omega) hno
          simp only [add_none, Nat.zero_add, hsz] at hrun
          rw [hst] at hrun
          simp only [Result.andThen_ok, Nat.add_zero] at hrun
          have hrow : (cc.toList.take (len * ei.size) ++ nv.toList ++ cc.toList.drop (len * ei.size + nv.toList.length)).toArray = (putAt cc.toList (len * ei.size) nv.toList).toArray := rfl
          rw [hrow] at hrun
          have hw := WLe.setRow (cs := (putAt cc.toList (len * ei.size) nv.toList).toArray) hblk (by simp [putAt_length (l := cc.toList) (off := len * ei.size) (new := nv.toList) (by simpa using hfit2)])
          have hk : Keeps I w (w.setRow b (putAt cc.toList (len * ei.size) nv.toList).toArray) := fun y hy => setRow_other (fun h => hni (h ▸ hy))
          have hmn : m id (v0 + 1) = none := hS.rel.fr2 id _ (v0 + 1) hg (by simp [Obj.ver])
          have hle : MLe m (updM m id (v0 + 1) b) := updM_le (.inl hmn)
          have hca : CellsAt (updM m id (v0 + 1) b) I (w.setRow b (putAt cc.toList (len * ei.size) nv.toList).toArray) b (cs.take (len * ei.size) ++ new) := by
           have hold : URels m I w (cs.take (len * ei.size)) (cc.toList.take (len * ei.size)) := by
            refine ⟨by simp; omega, fun i x y hx hy => ?_⟩
            have hi : i < len * ei.size := by have := (List.getElem?_eq_some_iff.1 hx).1; simp at this; omega
            rw [List.getElem?_take_of_lt hi] at hx hy
            obtain ⟨z, hz, hu2⟩ := hcells i x hx
            rw [Array.getElem?_toList, hz] at hy
            cases hy
            exact hu2
           refine CellsAt_of_prefix (vs := cc.toList.take (len * ei.size) ++ nv.toList) (setRow_at hblk) ((hold.append hnew).mono hle (fun _ h => h) hw hk) ?_
           simp [putAt]
          obtain ⟨hS2, hSt⟩ := SRel.next hS hg hm hw (fun y hy _ => setRow_other hy) (by simpa [World.setRow] using hlt) (.inl rfl) hca (e := e) (fun h0 => by
           obtain ⟨b1, k1, h4, h5⟩ := hS.rel.el id _ _ hg h0
           simp only [Obj.ver] at h4
           rw [hm] at h4; cases h4
           exact ⟨k1, hw.bt _ _ h5⟩)
          simp only [applyEff] at hap
          obtain ⟨I2, hS3, hSt3⟩ := putV_sound (v := .slice (some ⟨b, 0, none⟩) (len + k) cap) hS2 (.inr (.msl _ _ _ _ _ b cap bs (by simp [updM]) hroom (hw.bs _ _ hbs) hcapb)) hap
          exact ⟨_, _, _, hexec (by rw [hev]; exact hrun), .inl rfl, _, I2, lm, hS3, hSt.trans hSt3⟩
         ·skip
          have hold : ∀ w' : World, (∀ ad, w'.cell? ad = w.cell? ad) → (Builtin.firstCells ie.size len (.slice (some ⟨b, 0, none⟩) len cap)).run C.P w' = .ok ((List.range (len * ei.size)).map fun j => (w.cell? ⟨b, 0 + j, none⟩).getD undef).toArray w' := by
           intro w' hw'
           simp only [Builtin.firstCells, hsz]
           refine run_loadCells w' _ (len * ei.size) (fun j => (w.cell? ⟨b, 0 + j, none⟩).getD undef) (fun j hj => ?_)
           rw [hw', add_none]
           obtain ⟨y, hy, _⟩ := hcells j cs[j] (by simp)
           rw [cell_of_block hblk, Nat.zero_add, hy]; rfl
          obtain ⟨cap', hcap', hrun⟩ := run_app_grow (ty := o.type) (base := some ⟨b, 0, none⟩) (sLen := len) (sCap := cap) ht ht2' hu hie hzero hd2 hdi hlo hfc hroom (by omega) (by omega) (by rw [hby]; exact hbigb) hold
          generalize hcv : (((List.range (len * ei.size)).map fun j => (w.cell? ⟨b, 0 + j, none⟩).getD undef).toArray ++ nv ++ Builtin.zeroCells _ (cap' - (len + k)) : Array Value) = cv at hrun
          have hg1 := (GrowI.drew I w).trans (GrowI.alloc I { w with drawn := w.drawn + 1 } (.cells cv e))
          have hmn : m id (v0 + 1) = none := hS.rel.fr2 id _ (v0 + 1) hg (by simp [Obj.ver])
          have hle : MLe m (updM m id (v0 + 1) w.heap.size) := updM_le (.inl hmn)
          have hk : Keeps I w ({ w with drawn := w.drawn + 1 }.alloc (.cells cv e)) := fun y hy => hg1.old y (hS.rel.iLt hy)
          have hbl : ({ w with drawn := w.drawn + 1 }.alloc (.cells cv e)).heap[w.heap.size]? = some (.cells cv e (0, 0)) := alloc_new { w with drawn := w.drawn + 1 } _
          have hcvs : cap' * ei.size ≤ cv.size := by
           rw [← hcv]
           simp only [Array.size_append, Builtin.zeroCells, Array.size_map, Array.size_range, hzsz _ hzero, hnvl, hnl, hsz, List.size_toArray, List.length_map, List.length_range]
           have : cap' * ei.size = len * ei.size + k * ei.size + (cap' - (len + k)) * ei.size := by rw [← Nat.add_mul, ← Nat.add_mul]; congr 1; omega
           omega
          have hca : CellsAt (updM m id (v0 + 1) w.heap.size) I ({ w with drawn := w.drawn + 1 }.alloc (.cells cv e)) w.heap.size (cs.take (len * ei.size) ++ new) := by
           have hold2 : URels m I w (cs.take (len * ei.size)) ((List.range (len * ei.size)).map fun j => (w.cell? ⟨b, 0 + j, none⟩).getD undef) := by
            refine ⟨by simp; omega, fun i x y hx hy => ?_⟩
            have hi : i < len * ei.size := by have := (List.getElem?_eq_some_iff.1 hx).1; simp at this; omega
            rw [List.getElem?_take_of_lt hi] at hx
            obtain ⟨z, hz, hu2⟩ := hcells i x hx
            simp [hi, cell_of_block hblk, hz] at hy
            subst hy
            exact hu2
           refine CellsAt_of_prefix (vs := ((List.range (len * ei.size)).map fun j => (w.cell? ⟨b, 0 + j, none⟩).getD undef) ++ nv.toList) hbl ((hold2.append hnew).mono hle (fun _ h => h) hg1.wle hk) ?_
           rw [← hcv]
           simp only [Array.toList_append, List.append_assoc]
           exact ⟨_, by rw [List.append_assoc]⟩
          obtain ⟨hS2, hSt⟩ := SRel.next hS hg hm hg1.wle (fun y _ hy => hg1.old y hy) (by rw [alloc_size]; exact Nat.lt_succ_self _) (.inr (Nat.le_refl _)) hca (e := e) (fun _ => ⟨cv.size, by unfold btype; rw [hbl]⟩)
          simp only [applyEff] at hap
          obtain ⟨I2, hS3, hSt3⟩ := putV_sound (v := .slice (some ⟨w.heap.size, 0, none⟩) (len + k) cap') hS2 (.inr (.msl _ _ _ _ _ w.heap.size cap' cv.size (by simp [updM]) hcap' (by unfold bsize; rw [hbl]) (by omega))) hap
          exact ⟨_, _, _, hexec (by rw [hev]; exact hrun), .inl rfl, _, I2, lm, hS3, hSt.trans hSt3⟩
        ·cases he
       ·cases he
      ·cases he
   ·cases he
 ·cases he
end
end Go.Dv
/- Maps that are written; operators; conversions. -/
namespace Go.Dv
section
variable {C : Ctx} {A : FAnn} {n : Nat} {m m' : Nat → Nat → Option Nat} {I I' : Nat → Prop} {w w' : World} {lm lm' : Nat → Option Nat} {σ σ' : St} {tmps : Array Value} {a : Act}
/-- A block that is no cells is written anew. -/
def setBlk (w : World) (b : Nat) (o : Go.Obj) : World := { w with heap := w.heap.setIfInBounds b o }
theorem setBlk_at {b : Nat} {o : Go.Obj} (h : b < w.heap.size) : (setBlk w b o).heap[b]? = some o := by
 simp [setBlk, h]
theorem setBlk_other {b x : Nat} {o : Go.Obj} (h : x ≠ b) : (setBlk w b o).heap[x]? = w.heap[x]? := by
 simp only [setBlk, Array.getElem?_setIfInBounds]
 rw [if_neg (fun h' => h h'.symm)]
theorem WLe.setBlk {b : Nat} {o : Go.Obj} (h : bsize w b = none) : WLe w (Dv.setBlk w b o) := by
 refine ⟨rfl, rfl, rfl, by simp [Dv.setBlk], fun x k hx => ?_⟩
 have : x ≠ b := by rintro rfl; rw [bsize_btype, hx] at h; cases h
 rw [btype_of_block (setBlk_other this)]; exact hx
theorem run_setObj {P : Program} {b : Nat} {o o' : Go.Obj} (h : w.heap[b]? = some o) (hc : ∀ c e f, o ≠ .cells c e f) : (setObj b o').run P w = .ok () (setBlk w b o') := by
 simp only [setObj, Sem.run, h]
 cases o <;> first | rfl | exact absurd rfl (hc _ _ _)
theorem URel.monoM (hm : MLe m m') {x : AV} {v : Value} (h : URel m I w x v) : URel m' I w x v := h.mono hm (fun _ h => h) (WLe.refl w) (Keeps.refl I w)
/-- An object that is no cells, of version 0, is written anew. -/
theorem SRel.reset (hS : SRel C n m I w lm σ tmps) {id b : Nat} {o o' : Obj} {go : Go.Obj} (hg : σ.h.get id = some o) (hb : m id 0 = some b) (hv : o.ver = 0) (hv' : o'.ver = 0)
  (hbs : bsize w b = none) (ho : ObjRel m I (setBlk w b go) o' b) :
  SRel C n m I (setBlk w b go) lm { σ with h := σ.h.set id o' } tmps ∧ Step m I w σ.h lm σ.loc m I (setBlk w b go) (σ.h.set id o') lm σ.loc := by
 have hb0 : m id o.ver = some b := by rw [hv]; exact hb
 have hw := WLe.setBlk (o := go) hbs
 have hfree := hS.forgotten hg hb0
 have hS3 := SRel.wild (hS.forget id) hfree hw (fun y hy _ => setBlk_other hy)
 have hm1 : updM m id 0 b = m := by
  funext i' v'; unfold updM; split
  ·rename_i hc; obtain ⟨rfl, rfl⟩ := hc; exact hb.symm
  ·rfl
 have hlt : b < w.heap.size := hS.rel.mlt _ _ _ hb
 have hS4 := SRel.add hS3 (id := id) (b := b) (o := o') (nx := σ.h.next) (by simp [Hp.del, del]) hfree (Nat.lt_of_lt_of_le hlt hw.size)
  (Nat.le_refl _) (hS.rel.lt _ _ hg) (.inr (by rw [hv']; exact hb)) (fun v h1 => hS.rel.fr2 id _ v hg (by omega)) (by rw [hv', hm1]; exact ho) σ.h.el (fun _ _ => rfl)
  (fun e he => let ⟨b1, k1, h4, h5⟩ := hS.rel.el id _ e hg he; ⟨k1, by have h6 := hb0; rw [h6] at h4; cases h4; exact hw.bt _ _ h5⟩)
 rw [hv', hm1] at hS4
 have hh : ({ next := σ.h.next, get := upd (σ.h.del id).get id o', ty := (σ.h.del id).ty, el := σ.h.el } : Hp) = σ.h.set id o' := by
  simp only [Hp.set, Hp.del, Hp.mk.injEq, true_and, and_true]
  funext k; simp only [upd, Hp.del, del]; split <;> rfl
 simp only [hh] at hS4
 refine ⟨hS4, MLe.refl m, fun _ h => h, hw, fun y hy hnt _ => setBlk_other (fun h => hnt ⟨id, _, hg, h ▸ hb0⟩), fun _ h => .inl h, fun y hy => ?_, fun _ h => .inl h⟩
 obtain ⟨k, o2, ho2, hkm⟩ := hy
 simp only [Hp.set, upd] at ho2
 split at ho2
 ·rename_i hkk; subst hkk
  simp at ho2; subst ho2
  exact .inl ⟨k, _, hg, by rw [hv]; rw [hv'] at hkm; exact hkm⟩
 ·exact .inl ⟨k, o2, ho2, hkm⟩
theorem scalEq_dval {d : TypeDesc} {k k' : DV} {v v' : Value} (hk : KindOf d k) (hv : DRel I w k v) (hv' : DRel I w k' v') (he : scalEq k k' = some true) : Instr.sameBits 10000 v' v = true := by
 rcases hk with ⟨i, rfl, i', n, rfl⟩ | ⟨rfl, s, rfl⟩
 ·cases hv
  cases hv' <;> simp only [scalEq] at he <;> try (cases he; done)
  split at he
  ·rename_i hk; subst hk; simp at he; simp [Instr.sameBits, he]
  ·cases he
 ·cases hv
  cases hv' <;> simp only [scalEq] at he <;> try (cases he; done)
  simp at he
  simp [Instr.sameBits, bytes_beq, he]
theorem putE_rel {d : TypeDesc} {k : DV} {v : Value} {x : AV} (hk : KindOf d k) (hv : DRel I w k v) :
  ∀ (es : List (DV × AV)) (ys : List MapEntry) (i0 : Nat) (r : List (DV × AV)), ys.length = es.length →
   (∀ (i : Nat) x y, es[i]? = some x → ys[i]? = some y → EntryRel m I w x y) → putE k x es = some r →
   (Instr.findNow d v ys i0 = some none ∧ r = es ++ [(k, x)]) ∨
   (∃ j y, Instr.findNow d v ys i0 = some (some (i0 + j, y.val)) ∧ ys[j]? = some y ∧ Instr.sameBits 10000 y.key v = true ∧ r = es.set j (k, x))
 | [], ys, i0, r, hl, _, hr => by
  simp [putE] at hr; subst hr
  cases ys with
  | nil => left; simp [Instr.findNow]
  | cons _ _ => simp at hl
 | (b, z) :: es, ys, i0, r, hl, hrel, hr => by
  cases ys with
  | nil => simp at hl
  | cons y ys =>
   have h0 := hrel 0 (b, z) y rfl rfl
   simp only [putE] at hr
   cases hs : scalEq k b with
   | none => simp [hs] at hr
   | some c =>
    have hsame := sameNow_rel hk hv h0.1 hs
    cases c with
    | true =>
     simp [hs] at hr; subst hr
     exact .inr ⟨0, y, by simp [Instr.findNow, hsame], rfl, scalEq_dval hk hv h0.1 hs, rfl⟩
    | false =>
     simp only [hs, Option.map_eq_some_iff] at hr
     obtain ⟨r', hr', rfl⟩ := hr
     have ih := putE_rel hk hv es ys (i0 + 1) r' (by simpa using hl) (fun i x y hx hy => hrel (i + 1) x y (by simpa using hx) (by simpa using hy)) hr'
     rcases ih with ⟨h1, rfl⟩ | ⟨j, y', h1, h2, h3, rfl⟩
     ·left; exact ⟨by simpa [Instr.findNow, hsame] using h1, rfl⟩
     ·right; exact ⟨j + 1, y', by simp [Instr.findNow, hsame, h1]; omega, by simpa using h2, h3, rfl⟩
theorem delE_rel {d : TypeDesc} {k : DV} {v : Value} (hk : KindOf d k) (hv : DRel I w k v) :
  ∀ (es : List (DV × AV)) (ys : List MapEntry) (i0 : Nat) (r : List (DV × AV)), ys.length = es.length →
   (∀ (i : Nat) x y, es[i]? = some x → ys[i]? = some y → EntryRel m I w x y) → delE k es = some r →
   (Instr.findNow d v ys i0 = some none ∧ r = es) ∨
   (∃ j y, Instr.findNow d v ys i0 = some (some (i0 + j, y.val)) ∧ ys[j]? = some y ∧ r = es.eraseIdx j)
 | [], ys, i0, r, hl, _, hr => by
  simp [delE] at hr; subst hr
  cases ys with
  | nil => left; simp [Instr.findNow]
  | cons _ _ => simp at hl
 | (b, z) :: es, ys, i0, r, hl, hrel, hr => by
  cases ys with
  | nil => simp at hl
  | cons y ys =>
   have h0 := hrel 0 (b, z) y rfl rfl
   simp only [delE] at hr
   cases hs : scalEq k b with
   | none => simp [hs] at hr
   | some c =>
    have hsame := sameNow_rel hk hv h0.1 hs
    cases c with
    | true =>
     simp [hs] at hr; subst hr
     exact .inr ⟨0, y, by simp [Instr.findNow, hsame], rfl, rfl⟩
    | false =>
     simp only [hs, Option.map_eq_some_iff] at hr
     obtain ⟨r', hr', rfl⟩ := hr
     have ih := delE_rel hk hv es ys (i0 + 1) r' (by simpa using hl) (fun i x y hx hy => hrel (i + 1) x y (by simpa using hx) (by simpa using hy)) hr'
     rcases ih with ⟨h1, rfl⟩ | ⟨j, y', h1, h2, rfl⟩
     ·left; exact ⟨by simpa [Instr.findNow, hsame] using h1, rfl⟩
     ·right; exact ⟨j + 1, y', by simp [Instr.findNow, hsame, h1]; omega, by simpa using h2, rfl⟩
/-- The world's entries, written as the machine's are. -/
theorem mapUpdate_out {o : Oper} {t : TypeId} {mx kx vx : Operand} {mm k x : AV} {eff : Eff} (hC : COk C) (hop : o.op = .mapUpdate t mx kx vx) (hS : SRel C n m I w lm σ a.tmps)
  (hm : VRel m I w lm mm (a.eval mx)) (hk : VRel m I w lm k (a.eval kx)) (hx : VRel m I w lm x (a.eval vx)) (he : mapUpdateA C σ.h.get t mm k x = some eff)
  (hap : applyEff A n o.dst σ eff = some σ') : OpOut C n m I w lm σ σ' a o := by
 unfold mapUpdateA at he
 split at he
 ·rename_i kt e _ _ _ _ id kd hti
  have hu := T_map hC hti
  split at he
  ·rename_i es hg
   split at he
   ·cases he
   ·rename_i hcond
    simp only [not_or, Bool.not_eq_true', Bool.not_eq_false, Bool.not_eq_true] at hcond
    obtain ⟨hko, hxl⟩ := hcond
    obtain ⟨d, hd, hkind⟩ := keyOk_spec hC hko
    split at he
    ·rename_i es' hput
     simp only [Option.some.injEq] at he; subst he
     simp only [applyEff, Option.some.injEq] at hap; subst hap
     have hmu := hm.toU rfl
     cases hmv : a.eval mx with
     | map r =>
      rw [hmv] at hmu
      cases hmu with
      | map _ b hb =>
       obtain ⟨b', hb', hni, ys, clock, hblk, hlen, hrel, hkeys⟩ := hS.rel.obj id _ hg
       simp only [Obj.ver] at hb'
       rw [hb] at hb'; cases hb'
       have hlt : b < w.heap.size := hS.rel.mlt _ _ _ hb
       have hbs : bsize w b = none := by unfold bsize; rw [hblk]
       have hck := checkKey_run C.P false hd hkind hk.d
       have hput' := putE_rel (m := m) (x := x) hkind hk.d es ys.toList 0 es' hlen hrel hput
       have hxu := hx.toU hxl
       have hw := fun go => WLe.setBlk (o := go) hbs
       have hK : ∀ go, Keeps I w (setBlk w b go) := fun go y hy => setBlk_other (fun h => hni (h ▸ hy))
       have hkeys' : ∀ z ∈ es', isKey z.1 = true := by
        intro z hz
        rcases hput' with ⟨_, rfl⟩ | ⟨j, y, _, _, _, rfl⟩
        ·rcases List.mem_append.1 hz with h1 | h1
         ·exact hkeys z h1
         ·simp at h1; subst h1; exact hkind.isKey
        ·rcases List.mem_or_eq_of_mem_set hz with h1 | h1
         ·exact hkeys z h1
         ·subst h1; exact hkind.isKey
       have key : ∃ ys' clock', (Instr.mapUpdate t (.map (some b)) (a.eval kx) (a.eval vx)).run C.P w = .ok () (setBlk w b (.map ys' clock')) ∧ ys'.toList.length = es'.length ∧
         ∀ (i : Nat) p q, es'[i]? = some p → ys'.toList[i]? = some q → EntryRel m I w p q := by
        rcases hput' with ⟨h1, rfl⟩ | ⟨j, y, h1, h2, h3, rfl⟩
        ·refine ⟨ys.push { key := a.eval kx, val := a.eval vx, born := clock }, clock + 1, ?_, by simpa using hlen, fun i p q hp hq => ?_⟩
         ·simp [Instr.mapUpdate, run_underlying hu, run_getObj_map hblk, hck, Instr.findKey, run_underlying hd, h1, run_setObj hblk (fun _ _ _ h => by cases h)]
         ·simp only [Array.toList_push] at hq
          by_cases hi : i < es.length
          ·rw [List.getElem?_append_left hi] at hp
           rw [List.getElem?_append_left (by omega)] at hq
           exact hrel i p q hp hq
          ·have : i = es.length := by have := (List.getElem?_eq_some_iff.1 hp).1; simp at this; omega
           subst this
           simp at hp; subst hp
           rw [← hlen] at hq
           simp at hq; subst hq
           exact ⟨hk.d, hxu⟩
        ·refine ⟨ys.modify j fun e => { e with key := a.eval kx, val := a.eval vx }, clock, ?_, by simpa using hlen, fun i p q hp hq => ?_⟩
         ·have hyj : ys[j]? = some y := by simpa using h2
          simp [Instr.mapUpdate, run_underlying hu, run_getObj_map hblk, hck, Instr.findKey, run_underlying hd, h1, hyj, Instr.keyThatStays, h3, run_setObj hblk (fun _ _ _ h => by cases h)]
         ·simp only [Array.getElem?_toList, Array.getElem?_modify] at hq
          rw [List.getElem?_set] at hp
          by_cases hij : j = i
          ·subst hij
           simp at hp hq
           obtain ⟨_, rfl⟩ := hp
           obtain ⟨y2, _, rfl⟩ := hq
           exact ⟨hk.d, hxu⟩
          ·rw [if_neg hij] at hp
           simp [hij] at hq
           exact hrel i p q hp (by simpa using hq)
       obtain ⟨ys', clock', hrun, hlen', hrel'⟩ := key
       obtain ⟨h1, h2⟩ := SRel.reset (go := .map ys' clock') (o' := .map es') hS hg hb rfl rfl hbs
        ⟨ys', clock', setBlk_at hlt, hlen', fun i p q hp hq => ⟨(hrel' i p q hp hq).1.mono (fun _ h => h) (hK _), (hrel' i p q hp hq).2.mono (MLe.refl m) (fun _ h => h) (hw _) (hK _)⟩, hkeys'⟩
       exact ⟨.skip, _, undef, by simp [execOp, hop, hmv, hrun], .inr ⟨rfl, rfl⟩, m, I, lm, SRel.dropD h1, h2⟩
     | _ => rw [hmv] at hmu; cases hmu
    ·cases he
  ·cases he
 ·cases he
end
end Go.Dv
