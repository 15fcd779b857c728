/- A part of the proof of InferUses, second form: for every input of bulk at most 1048576 the call returns true and the arguments read as they did. Its condition: that bulk. -/
import Derived.Test.YtanhfhjoeoinoaaGreatDoorU01
import Derived.Laws.StructEq
/- Indexes, slice expressions, comparisons, maps' look-ups. -/
namespace Go.Dv
section
variable {C : Ctx} {m : Nat → Nat → Option Nat} {I : Nat → Prop} {w : World} {lm : Nat → Option Nat} {h : Hp} {L : Loc}
theorem T_slice (hC : COk C) {t : TypeId} {e : TypeId} {sz : Nat} {ag : Bool} {by_ : Nat} {z : List DV} (hti : C.T t = some { k := .slice e, size := sz, agg := ag, bytes := by_, zero := z }) :
  C.P.underlying t = some (.slice e) := by
 obtain ⟨d, hd, hk, _⟩ := (hC _ _ hti).und
 cases d with
 | slice e' => simp only [KOk] at hk; rw [hd, hk]
 | _ => simp [KOk] at hk
theorem T_array (hC : COk C) {t : TypeId} {n : Nat} {e : TypeId} {sz : Nat} {ag : Bool} {by_ : Nat} {z : List DV} (hti : C.T t = some { k := .array n e, size := sz, agg := ag, bytes := by_, zero := z }) :
  C.P.underlying t = some (.array n e) ∧ 2 ≤ n := by
 obtain ⟨d, hd, hk, _⟩ := (hC _ _ hti).und
 cases d with
 | array n' e' => simp only [KOk] at hk; obtain ⟨rfl, rfl, h2⟩ := hk; exact ⟨hd, h2⟩
 | _ => simp [KOk] at hk
theorem T_map (hC : COk C) {t : TypeId} {k e : TypeId} {sz : Nat} {ag : Bool} {by_ : Nat} {z : List DV} (hti : C.T t = some { k := .map k e, size := sz, agg := ag, bytes := by_, zero := z }) :
  C.P.underlying t = some (.map k e) := by
 obtain ⟨d, hd, hk, _⟩ := (hC _ _ hti).und
 cases d with
 | map k' e' => simp only [KOk] at hk; obtain ⟨rfl, rfl⟩ := hk; exact hd
 | _ => simp [KOk] at hk
theorem T_string (hC : COk C) {t : TypeId} {sz : Nat} {ag : Bool} {by_ : Nat} {z : List DV} (hti : C.T t = some { k := .string, size := sz, agg := ag, bytes := by_, zero := z }) :
  C.P.underlying t = some .string := by
 obtain ⟨d, hd, hk, _⟩ := (hC _ _ hti).und
 cases d with
 | string => exact hd
 | _ => simp [KOk] at hk
theorem T_int (hC : COk C) {t : TypeId} {k : IntKind} {sz : Nat} {ag : Bool} {by_ : Nat} {z : List DV} (hti : C.T t = some { k := .int k, size := sz, agg := ag, bytes := by_, zero := z }) :
  C.P.underlying t = some (.int k) := by
 obtain ⟨d, hd, hk, _⟩ := (hC _ _ hti).und
 cases d with
 | int k' => simp only [KOk] at hk; rw [hd, hk]
 | _ => simp [KOk] at hk
theorem T_struct (hC : COk C) {t : TypeId} {l : List (Nat × Nat × Bool)} {sz : Nat} {ag : Bool} {by_ : Nat} {z : List DV} (hti : C.T t = some { k := .struct l, size := sz, agg := ag, bytes := by_, zero := z }) :
  ∃ fs, C.P.underlying t = some (.struct fs) ∧ fs.size = l.length ∧ ∀ (i : Nat) f x, fs[i]? = some f → l[i]? = some x → fieldOk C.P f x := by
 obtain ⟨d, hd, hk, _⟩ := (hC _ _ hti).und
 cases d with
 | struct fs => simp only [KOk] at hk; exact ⟨fs, hd, hk⟩
 | _ => simp [KOk] at hk
theorem T_info (hC : COk C) {t : TypeId} {ti : TI} (hti : C.T t = some ti) : ∃ i, C.P.info? t = some i ∧ i.size = ti.size ∧ i.bytes = ti.bytes := by
 obtain ⟨i, h1, h2, h3, _⟩ := (hC _ _ hti).info
 exact ⟨i, h1, h2, h3⟩
theorem VRel.immV {cs : List DV} {len : Nat} {v : Value} (hr : VRel m I w lm (.d (.imm cs len)) v) :
  ∃ (a : Addr) (cap : Nat) (vs : Nat → Value), v = .slice (some a) len cap ∧ len ≤ cap ∧ (cs ≠ [] → I a.block ∧ a.spot = none) ∧
   (∀ (i : Nat) x, cs[i]? = some x → w.cell? ⟨a.block, a.off + i, none⟩ = some (vs i)) ∧ (∀ (i : Nat) x, cs[i]? = some x → DRel I w x (vs i)) := by
 have := hr.d; cases this with
 | imm _ _ a cap vs hlen hI hc hq => exact ⟨a, cap, vs, rfl, hlen, hI, hc, hq⟩
theorem VRel.mslV {id off len ver sz : Nat} {v : Value} (hr : VRel m I w lm (.msl id off len ver sz) v) :
  ∃ b cap n, m id ver = some b ∧ v = .slice (some ⟨b, off, none⟩) len cap ∧ len ≤ cap ∧ bsize w b = some n ∧ off + cap * sz ≤ n := by
 have := hr.toU rfl; cases this with
 | msl _ _ _ _ _ b cap n hm hlen hn hcap => exact ⟨b, cap, n, hm, rfl, hlen, hn, hcap⟩
theorem VRel.nilsV {v : Value} (hr : VRel m I w lm (.d .nilslice) v) : v = .slice none 0 0 := by
 have := hr.d; cases this; rfl
theorem drop_iptr {cs : List DV} {a : Addr} {vs : Nat → Value} (n : Nat) (hI : cs ≠ [] → I a.block ∧ a.spot = none)
  (hc : ∀ (i : Nat) x, cs[i]? = some x → w.cell? ⟨a.block, a.off + i, none⟩ = some (vs i)) (hd : ∀ (i : Nat) x, cs[i]? = some x → DRel I w x (vs i)) :
  DRel I w (.iptr (cs.drop n)) (.pointer (some (a.add n))) := by
 have h0 : VRel (fun _ _ => none) I w (fun _ => none) (.d (.iptr cs)) (.pointer (some a)) := .inr (.d _ _ (.iptr cs a vs hI hc hd))
 obtain ⟨a', ha, hr⟩ := shiftP_rel (n := n) h0 rfl
 cases ha
 exact hr.d
theorem indexAddrA_rel (hC : COk C) {t : TypeId} {x ix r : AV} {xv iv : Value} (hx : VRel m I w lm x xv) (hi : VRel m I w lm ix iv) (hr : indexAddrA C t x ix = some r) :
  ∃ v, (Instr.indexAt t xv iv).run C.P w = .ok v w ∧ VRel m I w lm r v := by
 unfold indexAddrA at hr
 split at hr
 ·rename_i k i e _ _ _ _ hix hti
  have hiv := intOf_rel hi hix
  subst hiv
  have hu := T_slice hC hti
  split at hr
  ·cases hr
  ·rename_i ei hei
   obtain ⟨ie, hie, hsz, _⟩ := T_info hC hei
   split at hr
   ·rename_i cs len
    split at hr
    ·rename_i hb
     simp only [Option.some.injEq] at hr
     subst hr
     obtain ⟨a, cap, vs, rfl, hlen, hI, hc, hd⟩ := hx.immV
     refine ⟨.pointer (some (a.add (i.toNat * ei.size))), ?_, .inr (.d _ _ (drop_iptr _ hI hc hd))⟩
     simp [Instr.indexAt, asIntOf, run_underlying hu, hb, run_sizeOf_i w hie, hsz]
    ·cases hr
   ·rename_i id off len ver sz
    split at hr
    ·rename_i hb
     simp only [Option.some.injEq] at hr
     subst hr
     obtain ⟨b, cap, n, hm, rfl, hlen, hn, hcap⟩ := hx.mslV
     refine ⟨.pointer (some ⟨b, off + i.toNat * ei.size, none⟩), ?_, .inr (.ptr _ _ _ _ hm)⟩
     simp [Instr.indexAt, asIntOf, run_underlying hu, hb.2, run_sizeOf_i w hie, hsz, add_none]
    ·cases hr
   ·cases hr
 ·rename_i k i n e _ _ _ _ hix hti
  have hiv := intOf_rel hi hix
  subst hiv
  obtain ⟨hu, _⟩ := T_array hC hti
  split at hr
  ·cases hr
  ·rename_i ei hei
   obtain ⟨ie, hie, hsz, _⟩ := T_info hC hei
   split at hr
   ·rename_i hb
    obtain ⟨a, rfl, hv⟩ := shiftP_rel hx hr
    refine ⟨_, ?_, hv⟩
    simp [Instr.indexAt, asIntOf, run_underlying hu, Instr.sureAddr, hb, run_sizeOf_i w hie, hsz]
   ·cases hr
 ·cases hr
theorem indexA_rel (hC : COk C) {t : TypeId} {x ix r : AV} {xv iv : Value} (hx : VRel m I w lm x xv) (hi : VRel m I w lm ix iv) (hr : indexA C t x ix = some r) :
  ∃ v, (Instr.index t xv iv).run C.P w = .ok v w ∧ URel m I w r v := by
 unfold indexA at hr
 split at hr
 ·rename_i k i _ _ _ _ s hix hti
  have hiv := intOf_rel hi hix
  subst hiv
  have hu := T_string hC hti
  split at hr
  ·rename_i h0
   split at hr
   ·rename_i b hb
    simp only [Option.some.injEq] at hr; subst hr
    have := hx.strV
    subst this
    refine ⟨.int .u8 b.toNat, ?_, .d _ _ (.int _ _)⟩
    have hget : (⟨⟨s⟩⟩ : ByteArray)[i.toNat]? = some b := by
     have hlt : i.toNat < s.length := (List.getElem?_eq_some_iff.1 hb).1
     have h2 : i.toNat < (⟨⟨s⟩⟩ : ByteArray).size := by simpa [ByteArray.size] using hlt
     rw [getElem?_pos (⟨⟨s⟩⟩ : ByteArray) i.toNat h2]
     have := (List.getElem?_eq_some_iff.1 hb).2
     simp only [Option.some.injEq]
     exact this
    simp [Instr.index, asIntOf, run_underlying hu, h0, hget]
   ·cases hr
  ·cases hr
 ·rename_i k i n e _ _ _ _ cs hix hti
  have hiv := intOf_rel hi hix
  subst hiv
  obtain ⟨hu, _⟩ := T_array hC hti
  split at hr
  ·cases hr
  ·rename_i ei hei
   obtain ⟨ie, hie, hsz, _⟩ := T_info hC hei
   obtain ⟨d, hd, _, hag⟩ := (hC _ _ hei).und
   split at hr
   ·rename_i hb
    split at hr
    ·rename_i r' hte
     obtain ⟨vs, rfl, hrel⟩ := (aggs_rel hx).1 cs rfl
     rw [oneOfD_map] at hr
     obtain ⟨v, hv, hu'⟩ := oneOf_part hie hsz hd hag hrel (takeExact_map hte) hr
     refine ⟨v, ?_, hu'⟩
     simp [Instr.index, asIntOf, run_underlying hu, hb, run_sizeOf_i w hie, hsz, hv]
    ·cases hr
   ·cases hr
 ·rename_i k i n e _ _ _ _ cs hix hti
  have hiv := intOf_rel hi hix
  subst hiv
  obtain ⟨hu, _⟩ := T_array hC hti
  split at hr
  ·cases hr
  ·rename_i ei hei
   obtain ⟨ie, hie, hsz, _⟩ := T_info hC hei
   obtain ⟨d, hd, _, hag⟩ := (hC _ _ hei).und
   split at hr
   ·rename_i hb
    split at hr
    ·rename_i r' hte
     obtain ⟨vs, rfl, hrel⟩ := (aggs_rel hx).2 cs rfl
     obtain ⟨v, hv, hu'⟩ := oneOf_part hie hsz hd hag hrel hte hr
     refine ⟨v, ?_, hu'⟩
     simp [Instr.index, asIntOf, run_underlying hu, hb, run_sizeOf_i w hie, hsz, hv]
    ·cases hr
   ·cases hr
 ·cases hr
theorem bounds_run (P : Program) (w : World) {isS : Bool} {len cap cap' : Nat} (hcap : cap ≤ cap') {lo hi : Option AV} {lov hiv : Option Value} {l hh : Nat}
  (hl : match lo, lov with | none, none => True | some x, some v => VRel m I w lm x v | _, _ => False)
  (hhi : match hi, hiv with | none, none => True | some x, some v => VRel m I w lm x v | _, _ => False)
  (hb : bounds len cap lo hi = some (l, hh)) : (Instr.sliceBounds isS len cap' lov hiv none).run P w = .ok (l, hh, cap') w ∧ l ≤ hh ∧ (hh ≤ cap ∨ hh ≤ len) := by
 have hb1 : ∀ (x : AV) (v : Value) (k : IntKind) (i : Int) (y : Nat) (c : BoundsCode), VRel m I w lm x v → intOf? x = some (k, i) → (0 ≤ i ∧ i ≤ y) →
   (Instr.sliceBound v y c).run P w = .ok i.toNat w := by
  intro x v k i y c hv hk hy
  have := intOf_rel hv hk
  subst this
  simp [Instr.sliceBound, asIntOf, hy]
 unfold bounds at hb
 cases hi with
 | none =>
  cases hiv with
  | some _ => exact hhi.elim
  | none =>
   simp only at hb
   cases lo with
   | none =>
    cases lov with
    | some _ => exact hl.elim
    | none =>
     simp at hb
     obtain ⟨rfl, rfl⟩ := hb
     simp [Instr.sliceBounds]
   | some x =>
    cases lov with
    | none => exact hl.elim
    | some v =>
     simp only at hb hl
     split at hb
     ·rename_i k i hk
      split at hb
      ·rename_i hy
       simp at hb
       obtain ⟨rfl, rfl⟩ := hb
       simp [Instr.sliceBounds, hb1 x v k i len _ hl hk hy]
       omega
      ·cases hb
     ·cases hb
 | some y =>
  cases hiv with
  | none => exact hhi.elim
  | some u =>
   simp only at hb hhi
   split at hb
   ·cases hb
   ·rename_i h0 hh0
    split at hh0
    ·rename_i k i hk
     split at hh0
     ·rename_i hy
      simp only [Option.some.injEq] at hh0
      subst hh0
      have hy' : 0 ≤ i ∧ i ≤ (cap' : Int) := ⟨hy.1, by omega⟩
      cases lo with
      | none =>
       cases lov with
       | some _ => exact hl.elim
       | none =>
        simp at hb
        obtain ⟨rfl, rfl⟩ := hb
        refine ⟨?_, by omega, by omega⟩
        simp [Instr.sliceBounds, hb1 y u k i cap' _ hhi hk hy']
      | some x =>
       cases lov with
       | none => exact hl.elim
       | some v =>
        simp only at hb hl
        split at hb
        ·rename_i k2 i2 hk2
         split at hb
         ·rename_i hy2
          simp at hb
          obtain ⟨rfl, rfl⟩ := hb
          refine ⟨?_, by omega, by omega⟩
          simp [Instr.sliceBounds, hb1 y u k i cap' _ hhi hk hy', hb1 x v k2 i2 i.toNat _ hl hk2 hy2]
         ·cases hb
        ·cases hb
     ·cases hh0
    ·cases hh0
end
end Go.Dv
/- Slice expressions, comparisons, maps' look-ups. -/
namespace Go.Dv
section
variable {C : Ctx} {m : Nat → Nat → Option Nat} {I : Nat → Prop} {w : World} {lm : Nat → Option Nat} {h : Hp} {L : Loc}
theorem sliceA_rel (hC : COk C) {t : TypeId} {x r : AV} {xv : Value} {lo hi : Option AV} {lov hiv : Option Value} (hx : VRel m I w lm x xv)
  (hl : match lo, lov with | none, none => True | some x, some v => VRel m I w lm x v | _, _ => False)
  (hhi : match hi, hiv with | none, none => True | some x, some v => VRel m I w lm x v | _, _ => False)
  (hr : sliceA C t x lo hi = some r) : ∃ v, (Instr.sliceAt t xv lov hiv none).run C.P w = .ok v w ∧ URel m I w r v := by
 unfold sliceA at hr
 split at hr
 ·rename_i s hti
  have hu := T_string hC hti
  split at hr
  ·rename_i l hh hb
   simp only [Option.some.injEq] at hr; subst hr
   have := hx.strV
   subst this
   obtain ⟨hrun, hle, hlen⟩ := bounds_run (isS := false) C.P w (Nat.le_refl s.length) hl hhi hb
   refine ⟨.string ((⟨⟨s⟩⟩ : ByteArray).extract l hh), ?_, .d _ _ ?_⟩
   ·have hsz : (⟨⟨s⟩⟩ : ByteArray).size = s.length := rfl
    simp [Instr.sliceAt, Instr.slice, run_underlying hu, hsz, hrun]
   ·have : (⟨⟨s⟩⟩ : ByteArray).extract l hh = ⟨⟨(s.take hh).drop l⟩⟩ := by
     apply ByteArray.ext
     rw [ByteArray.data_extract]
     apply Array.ext'
     simp [List.take_drop]
     congr 1
     congr 1
     omega
    rw [this]
    exact .str _
  ·cases hr
 ·rename_i e _ _ _ _ cs len hti
  have hu := T_slice hC hti
  split at hr
  ·rename_i ei l hh hei hb
   simp only [Option.some.injEq] at hr; subst hr
   obtain ⟨ie, hie, hsz, _⟩ := T_info hC hei
   obtain ⟨a, cap, vs, rfl, hlen, hI, hc, hd⟩ := hx.immV
   obtain ⟨hrun, hle, hlen2⟩ := bounds_run (isS := true) C.P w hlen hl hhi hb
   refine ⟨.slice (some (if cap = l then a else a.add (l * ei.size))) (hh - l) (cap - l), ?_, .d _ _ ?_⟩
   ·simp only [Instr.sliceAt, Instr.slice, Sem.run_bind, run_underlying hu, Result.andThen_ok, hrun, run_sizeOf_i w hie, hsz, Sem.run_pure]
    congr 2
    split <;> rfl
   ·have hkey : ∀ a' : Addr, (a' = a.add (l * ei.size)) → DRel I w (.imm ((cs.take (hh * ei.size)).drop (l * ei.size)) (hh - l)) (.slice (some a') (hh - l) (cap - l)) := by
     rintro a' rfl
     have hb' : (a.add (l * ei.size)).block = a.block := by unfold Addr.add; split <;> rfl
     have ho : (a.add (l * ei.size)).off = a.off + l * ei.size := by unfold Addr.add; split <;> simp_all
     have hget : ∀ (i : Nat) x, ((cs.take (hh * ei.size)).drop (l * ei.size))[i]? = some x → cs[l * ei.size + i]? = some x := by
      intro i x hx
      rw [List.getElem?_drop] at hx
      have := (List.getElem?_eq_some_iff.1 hx).1
      rw [List.getElem?_take_of_lt (by simp at this; omega)] at hx
      exact hx
     refine .imm _ _ _ _ (fun i => vs (l * ei.size + i)) (by omega) (fun hne => ?_) (fun i x hx => ?_) (fun i x hx => ?_)
     ·have hcs : cs ≠ [] := by rintro rfl; simp at hne
      obtain ⟨h1, h2⟩ := hI hcs
      refine ⟨by rw [hb']; exact h1, ?_⟩
      unfold Addr.add; split
      ·exact h2
      ·rfl
     ·rw [hb', ho, Nat.add_assoc]; exact hc _ _ (hget i x hx)
     ·exact hd _ _ (hget i x hx)
    split
    ·rename_i hcl
     by_cases hz : l * ei.size = 0
     ·exact hkey a (by simp [Addr.add, hz])
     ·skip
      have : (cs.take (hh * ei.size)).drop (l * ei.size) = [] := by
       apply List.drop_eq_nil_of_le
       have : hh = l := by omega
       subst this
       simp; omega
      rw [this]
      exact .imm _ _ _ _ (fun _ => undef) (by omega) (fun h => absurd rfl h) (fun i x hx => by simp at hx) (fun i x hx => by simp at hx)
    ·exact hkey _ rfl
  ·cases hr
 ·rename_i e _ _ _ _ id off len ver sz hti
  have hu := T_slice hC hti
  split at hr
  ·rename_i ei l hh hei hb
   split at hr
   ·rename_i hszz
    obtain ⟨ie, hie, hsz, _⟩ := T_info hC hei
    obtain ⟨b, cap, n, hm, rfl, hlen, hn, hcap⟩ := hx.mslV
    obtain ⟨hrun, hle, hlen2⟩ := bounds_run (isS := true) C.P w hlen hl hhi hb
    refine ⟨.slice (some (if cap = l then ⟨b, off, none⟩ else ⟨b, off + l * ei.size, none⟩)) (hh - l) (cap - l), ?_, ?_⟩
    ·simp only [Instr.sliceAt, Instr.slice, Sem.run_bind, run_underlying hu, Result.andThen_ok, hrun, run_sizeOf_i w hie, hsz, Sem.run_pure]
     congr 2
     split
     ·rfl
     ·simp [add_none]
    ·split at hr
     ·rename_i hlh
      simp only [Option.some.injEq] at hr; subst hr
      have h0 : hh - l = 0 := by omega
      rw [h0]
      exact .d _ _ (.imm _ _ _ _ (fun _ => undef) (by omega) (fun h => absurd rfl h) (fun i x hx => by simp at hx) (fun i x hx => by simp at hx))
     ·rename_i hlh
      simp only [Option.some.injEq] at hr; subst hr
      have hb2 : off + l * ei.size + (cap - l) * sz ≤ n := by
       rw [← hszz]
       have : l * sz + (cap - l) * sz = cap * sz := by rw [← Nat.add_mul]; congr 1; omega
       omega
      split
      ·rename_i hcl
       have hl0 : l = 0 := by omega
       subst hl0
       simp only [Nat.zero_mul, Nat.add_zero, Nat.sub_zero] at *
       exact .msl _ _ _ _ _ _ _ _ hm (by omega) hn hb2
      ·exact .msl _ _ _ _ _ _ _ _ hm (by omega) hn hb2
   ·cases hr
  ·cases hr
 ·rename_i e _ _ _ _ hti
  have hu := T_slice hC hti
  split at hr
  ·rename_i ei lh hei hb
   simp only [Option.some.injEq] at hr; subst hr
   obtain ⟨l, hh⟩ := lh
   obtain ⟨ie, hie, _⟩ := T_info hC hei
   have := hx.nilsV
   subst this
   obtain ⟨hrun, hle, hlen2⟩ := bounds_run (isS := true) C.P w (Nat.le_refl 0) hl hhi hb
   have hl0 : l = 0 := by omega
   have hh0 : hh = 0 := by omega
   subst hl0; subst hh0
   refine ⟨.slice none 0 0, ?_, .d _ _ .nilslice⟩
   simp [Instr.sliceAt, Instr.slice, run_underlying hu, hrun, run_sizeOf_i w hie]
  ·cases hr
 ·cases hr
end
end Go.Dv
/- Maps. -/
namespace Go.Dv
section
variable {C : Ctx} {m : Nat → Nat → Option Nat} {I : Nat → Prop} {w : World} {lm : Nat → Option Nat} {h : Hp} {L : Loc}
/-- The key's type and the key are of one kind. -/
def KindOf (d : TypeDesc) (k : DV) : Prop := (∃ i, d = .int i ∧ ∃ i' n, k = .int i' n) ∨ (d = .string ∧ ∃ s, k = .str s)
theorem keyOk_spec (hC : COk C) {kt : TypeId} {kd : DV} (hk : keyOk C kt kd = true) : ∃ d, C.P.underlying kt = some d ∧ KindOf d kd := by
 unfold keyOk at hk
 split at hk
 ·rename_i hti
  exact ⟨_, T_int hC hti, .inl ⟨_, rfl, _, _, rfl⟩⟩
 ·rename_i hti
  exact ⟨_, T_string hC hti, .inr ⟨rfl, _, rfl⟩⟩
 ·cases hk
theorem KindOf.isKey {d : TypeDesc} {k : DV} (hk : KindOf d k) : isKey k = true := by
 rcases hk with ⟨_, _, _, _, rfl⟩ | ⟨_, _, rfl⟩ <;> rfl
theorem bytes_beq (s t : List UInt8) : ((⟨⟨s⟩⟩ : ByteArray) == ⟨⟨t⟩⟩) = (s == t) := by
 rw [beq_toListBytes, ByteArray.toList_eq, ByteArray.toList_eq]
theorem sameNow_rel {d : TypeDesc} {k k' : DV} {v v' : Value} {b : Bool} (hk : KindOf d k) (hv : DRel I w k v) (hv' : DRel I w k' v') (he : scalEq k k' = some b) :
  Instr.sameNow d v v' = some b := by
 rcases hk with ⟨i, rfl, i', n, rfl⟩ | ⟨rfl, s, rfl⟩
 ·cases hv
  cases hv' <;> simp only [scalEq] at he <;> try (cases he; done)
  split at he
  ·rename_i hk; subst hk; simp at he; simp [Instr.sameNow, he]
  ·cases he
 ·cases hv
  cases hv' <;> simp only [scalEq] at he <;> try (cases he; done)
  simp at he
  simp [Instr.sameNow, bytes_beq, he]
theorem checkKey_run1 (P : Program) {kt : TypeId} {d : TypeDesc} {k : DV} {v : Value} (e : Bool) (n : Nat) (hu : P.underlying kt = some d) (hk : KindOf d k) (hv : DRel I w k v) :
  (Instr.checkKey e (n + 1) kt v).run P w = .ok () w := by
 rcases hk with ⟨i, rfl, i', n, rfl⟩ | ⟨rfl, s, rfl⟩ <;> cases hv <;> simp [Instr.checkKey, run_underlying hu]
theorem checkKey_run (P : Program) {kt : TypeId} {d : TypeDesc} {k : DV} {v : Value} (e : Bool) (hu : P.underlying kt = some d) (hk : KindOf d k) (hv : DRel I w k v) :
  (Instr.checkKey e 10000 kt v).run P w = .ok () w := checkKey_run1 P e 9999 hu hk hv
theorem findE_rel {d : TypeDesc} {k : DV} {v : Value} (hk : KindOf d k) (hv : DRel I w k v) :
  ∀ (es : List (DV × AV)) (ys : List MapEntry) (i0 : Nat) (r : Option AV), ys.length = es.length →
   (∀ (i : Nat) x y, es[i]? = some x → ys[i]? = some y → EntryRel m I w x y) → findE k es = some r →
   match r with
   | none => Instr.findNow d v ys i0 = some none
   | some x => ∃ j y, Instr.findNow d v ys i0 = some (some (i0 + j, y.val)) ∧ ys[j]? = some y ∧ URel m I w x y.val
 | [], ys, i0, r, hl, _, hr => by
  simp [findE] at hr; subst hr
  cases ys with
  | nil => simp [Instr.findNow]
  | cons _ _ => simp at hl
 | (a, x) :: es, ys, i0, r, hl, hrel, hr => by
  cases ys with
  | nil => simp at hl
  | cons y ys =>
   have h0 := hrel 0 (a, x) y rfl rfl
   simp only [findE] at hr
   cases hs : scalEq k a with
   | none => simp [hs] at hr
   | some b =>
    have hsame := sameNow_rel hk hv h0.1 hs
    cases b with
    | true =>
     simp [hs] at hr; subst hr
     exact ⟨0, y, by simp [Instr.findNow, hsame], rfl, h0.2⟩
    | false =>
     simp [hs] at hr
     have ih := findE_rel hk hv es ys (i0 + 1) r (by simpa using hl) (fun i x y hx hy => hrel (i + 1) x y (by simpa using hx) (by simpa using hy)) hr
     cases r with
     | none => simpa [Instr.findNow, hsame] using ih
     | some z =>
      obtain ⟨j, y', h1, h2, h3⟩ := ih
      exact ⟨j + 1, y', by simp [Instr.findNow, hsame, h1]; omega, by simpa using h2, h3⟩
/-- A type's zero, as the table has it. -/
theorem zero_rel (hC : COk C) {e : TypeId} {ei : TI} (hei : C.T e = some ei) {v : AV} (hv : oneOfD ei.agg ei.zero = some v) :
  ∃ z, (zeroValue e).run C.P w = .ok z w ∧ URel m I w v z := by
 obtain ⟨i, hi, hsz, _, hz, hzl, _⟩ := (hC _ _ hei).info
 have hplain := (hC _ _ hei).plain
 refine ⟨_, run_zero_i w hi hz, ?_⟩
 unfold oneOfD at hv
 cases ha : ei.agg with
 | true =>
  simp [ha] at hv; subst hv
  simp only [if_true]
  refine .d _ _ (.agg _ _ (by simp) fun i x y hx hy => ?_)
  simp only [List.getElem?_map, Option.map_eq_some_iff] at hy
  obtain ⟨x', hx', rfl⟩ := hy
  rw [hx] at hx'; cases hx'
  exact dplain_rel (hplain x (List.mem_of_getElem? hx))
 | false =>
  simp [ha] at hv
  match hez : ei.zero, hv with
  | [c], hv =>
   simp at hv; subst hv
   simp only [Bool.false_eq_true, if_false, List.headD_cons]
   exact .d _ _ (dplain_rel (hplain c (by simp [hez])))
theorem entriesA_rel (hR : Rel m I w C h) {x : AV} {xv : Value} (hx : VRel m I w lm x xv) {es : List (DV × AV)} (he : entriesA h.get x = some es) :
  ∃ (ys : Array MapEntry), ys.toList.length = es.length ∧ (∀ (i : Nat) a y, es[i]? = some a → ys.toList[i]? = some y → EntryRel m I w a y) ∧
   ((xv = .map none ∧ ys = #[]) ∨ ∃ b clock, xv = .map (some b) ∧ w.heap[b]? = some (.map ys clock)) := by
 unfold entriesA at he
 split at he
 ·simp only [Option.some.injEq] at he; subst he
  have := hx.d
  cases this
  exact ⟨#[], rfl, fun i a y ha => by simp at ha, .inl ⟨rfl, rfl⟩⟩
 ·rename_i id
  split at he
  ·rename_i es' hget
   simp only [Option.some.injEq] at he; subst he
   have := hx.toU rfl
   cases this with
   | map _ b hb =>
    obtain ⟨b', hb', _, ys, clock, hblk, hlen, hrel, _⟩ := hR.obj id _ hget
    simp only [Obj.ver] at hb'
    rw [hb] at hb'; cases hb'
    exact ⟨ys, hlen, hrel, .inr ⟨b, clock, rfl, hblk⟩⟩
  ·cases he
 ·cases he
theorem run_getObj_map {P : Program} {b : Nat} {ys : Array MapEntry} {clock : Nat} (hb : w.heap[b]? = some (.map ys clock)) : (getObj b).run P w = .ok (.map ys clock) w := by
 simp [getObj, Sem.run, hb]
theorem lookupA_rel (hC : COk C) (hR : Rel m I w C h) {t : TypeId} {ok : Bool} {x k r : AV} {xv kv : Value} (hx : VRel m I w lm x xv) (hk : VRel m I w lm k kv)
  (hr : lookupA C h.get t ok x k = some r) : ∃ v, (Instr.lookup t xv kv ok).run C.P w = .ok v w ∧ URel m I w r v := by
 unfold lookupA at hr
 split at hr
 ·rename_i kt e _ _ _ _ kd hti
  have hu := T_map hC hti
  split at hr
  ·rename_i ei es hei hes
   obtain ⟨ys, hlen, hrel, hval⟩ := entriesA_rel hR hx hes
   split at hr
   ·rename_i hko
    obtain ⟨d, hd, hkind⟩ := keyOk_spec hC hko
    have hck := checkKey_run C.P ys.isEmpty hd hkind hk.d
    have key : ∀ (v : Value) (b : Bool), ((match Instr.findNow d kv ys.toList 0 with
      | some (some (_, y)) => (.ok (y, true) w : Result (Value × Bool))
      | some none => ((zeroValue e).run C.P w).andThen fun z w' => .ok (z, false) w'
      | none => .halt (.stuck "") w) = .ok (v, b) w) → (Instr.lookup t xv kv ok).run C.P w = .ok (if ok then .tuple #[v, .bool b] else v) w := by
     intro v b hvb
     have hgo : ∀ (es : Array MapEntry), es = ys → ((do
       Instr.checkKey es.isEmpty 10000 kt kv
       let (v, ok') ← match ← Instr.findKey kt kv es.toList with
        | some (_, v) => pure (v, true)
        | none => do pure (← zeroValue e, false)
       pure (if ok then .tuple #[v, .bool ok'] else v)) : Sem Value).run C.P w = .ok (if ok then .tuple #[v, .bool b] else v) w := by
      rintro es rfl
      cases hf : Instr.findNow d kv es.toList 0 with
      | none => simp [hf] at hvb
      | some o =>
       simp only [hf] at hvb
       cases o with
       | none =>
        generalize hz : (zeroValue e).run C.P w = rz at hvb
        cases rz with
        | halt _ _ => simp at hvb
        | ok z wz =>
         simp only [Result.andThen_ok, Result.ok.injEq, Prod.mk.injEq] at hvb
         obtain ⟨⟨rfl, rfl⟩, rfl⟩ := hvb
         simp [hck, Instr.findKey, run_underlying hd, hf, hz]
       | some p =>
        obtain ⟨pi, pv⟩ := p
        simp only [Result.ok.injEq, Prod.mk.injEq] at hvb
        obtain ⟨⟨rfl, rfl⟩, _⟩ := hvb
        simp [hck, Instr.findKey, run_underlying hd, hf]
     unfold Instr.lookup
     rcases hval with ⟨rfl, rfl⟩ | ⟨bl, clock, rfl, hblk⟩
     ·simp only [Sem.run_bind, run_underlying hu, Result.andThen_ok, Sem.run_pure]
      have := hgo _ rfl
      simp only [Sem.run_bind] at this
      exact this
     ·simp only [Sem.run_bind, run_underlying hu, Result.andThen_ok, run_getObj_map hblk, Sem.run_pure]
      have := hgo _ rfl
      simp only [Sem.run_bind] at this
      exact this
    split at hr
    ·rename_i v hf
     obtain ⟨j, y, hj, _, hv⟩ := findE_rel (m := m) hkind hk.d es ys.toList 0 _ hlen hrel hf
     simp only [Option.some.injEq] at hr; subst hr
     refine ⟨_, key y.val true (by simp [hj]), ?_⟩
     cases ok with
     | false => simpa using hv
     | true =>
      simp only [if_true]
      refine .tuple _ _ rfl fun i x y hx hy => ?_
      match i, hx, hy with
      | 0, hx, hy => simp at hx hy; subst hx; subst hy; exact hv
      | 1, hx, hy => simp at hx hy; subst hx; subst hy; exact .d _ _ (.bool _)
    ·rename_i hf
     have hnone := findE_rel (m := m) hkind hk.d es ys.toList 0 _ hlen hrel hf
     simp only at hnone
     split at hr
     ·rename_i v hv0
      obtain ⟨z, hz, hv⟩ := zero_rel (m := m) (I := I) (w := w) hC hei hv0
      simp only [Option.some.injEq] at hr; subst hr
      refine ⟨_, key z false (by simp [hnone, hz]), ?_⟩
      cases ok with
      | false => simpa using hv
      | true =>
       simp only [if_true]
       refine .tuple _ _ rfl fun i x y hx hy => ?_
       match i, hx, hy with
       | 0, hx, hy => simp at hx hy; subst hx; subst hy; exact hv
       | 1, hx, hy => simp at hx hy; subst hx; subst hy; exact .d _ _ (.bool _)
     ·cases hr
    ·cases hr
   ·cases hr
  ·cases hr
 ·cases hr
end
end Go.Dv
/- What becomes of the relation where memory turns. -/
namespace Go.Dv
structure St where
 env : Env
 loc : Loc
 h : Hp
def isLoc (lm : Nat → Option Nat) (L : Loc) (b : Nat) : Prop := ∃ k, (L k).isSome = true ∧ lm k = some b
/-- A frame over the model's slots and world. n: how many slots there are at least. -/
structure SRel (C : Ctx) (n : Nat) (m : Nat → Nat → Option Nat) (I : Nat → Prop) (w : World) (lm : Nat → Option Nat) (σ : St) (tmps : Array Value) : Prop where
 rel : Rel m I w C σ.h
 loc : LRel m I w σ.h lm σ.loc
 size : n ≤ tmps.size
 env : ∀ t x, σ.env t = some x → VRel m I w lm x (tmps.getD t undef)
/-- One stretch of a run: what may have turned, and what may not. -/
structure Step (m : Nat → Nat → Option Nat) (I : Nat → Prop) (w : World) (h : Hp) (lm : Nat → Option Nat) (L : Loc)
  (m' : Nat → Nat → Option Nat) (I' : Nat → Prop) (w' : World) (h' : Hp) (lm' : Nat → Option Nat) (L' : Loc) : Prop where
 mle : MLe m m'
 sub : ∀ b, I b → I' b
 wle : WLe w w'
 frame : ∀ b, b < w.heap.size → ¬ Tch m h b → ¬ isLoc lm L b → w'.heap[b]? = w.heap[b]?
 newI : ∀ b, I' b → I b ∨ w.heap.size ≤ b ∨ Tch m h b
 newT : ∀ b, Tch m' h' b → Tch m h b ∨ w.heap.size ≤ b
 newL : ∀ b, isLoc lm' L' b → isLoc lm L b ∨ w.heap.size ≤ b
section
variable {m m' m'' : Nat → Nat → Option Nat} {I I' I'' : Nat → Prop} {w w' w'' : World} {h h' h'' : Hp} {lm lm' lm'' : Nat → Option Nat} {L L' L'' : Loc} {C : Ctx} {n : Nat}
theorem Step.refl : Step m I w h lm L m I w h lm L :=
 ⟨MLe.refl m, fun _ h => h, WLe.refl w, fun _ _ _ _ => rfl, fun _ h => .inl h, fun _ h => .inl h, fun _ h => .inl h⟩
theorem Step.trans (a : Step m I w h lm L m' I' w' h' lm' L') (b : Step m' I' w' h' lm' L' m'' I'' w'' h'' lm'' L'') : Step m I w h lm L m'' I'' w'' h'' lm'' L'' := by
 have hs := a.wle.size
 refine ⟨a.mle.trans b.mle, fun x hx => b.sub x (a.sub x hx), a.wle.trans b.wle, fun x hx ht hl => ?_, fun x hx => ?_, fun x hx => ?_, fun x hx => ?_⟩
 ·rw [b.frame x (by omega) (fun h1 => ?_) (fun h1 => ?_), a.frame x hx ht hl]
  ·rcases a.newT x h1 with h2 | h2
   ·exact ht h2
   ·omega
  ·rcases a.newL x h1 with h2 | h2
   ·exact hl h2
   ·omega
 ·rcases b.newI x hx with h1 | h1 | h1
  ·exact a.newI x h1
  ·right; left; omega
  ·rcases a.newT x h1 with h2 | h2
   ·exact .inr (.inr h2)
   ·exact .inr (.inl h2)
 ·rcases b.newT x hx with h1 | h1
  ·exact a.newT x h1
  ·right; omega
 ·rcases b.newL x hx with h1 | h1
  ·exact a.newL x h1
  ·right; omega
theorem Rel.tchLt (hR : Rel m I w C h) {b : Nat} (ht : Tch m h b) : b < w.heap.size := by
 obtain ⟨id, o, _, hm⟩ := ht
 exact hR.mlt _ _ _ hm
theorem Rel.tchNotI (hR : Rel m I w C h) {b : Nat} (ht : Tch m h b) : ¬ I b := by
 obtain ⟨id, o, ho, hm⟩ := ht
 obtain ⟨b', hb', hn, _⟩ := hR.obj id o ho
 rw [hm] at hb'; cases hb'
 exact hn
theorem Rel.iLt (hR : Rel m I w C h) {b : Nat} (hi : I b) : b < w.heap.size := by
 obtain ⟨n, hn⟩ := Option.isSome_iff_exists.1 (hR.imm b hi)
 exact lt_of_bsize hn
theorem btype_of_block {w w' : World} {b : Nat} (hb : w'.heap[b]? = w.heap[b]?) : btype w' b = btype w b := by
 unfold btype; rw [hb]
theorem bsize_of_block {w w' : World} {b : Nat} (hb : w'.heap[b]? = w.heap[b]?) : bsize w' b = bsize w b := by
 unfold bsize; rw [hb]
theorem ObjRel.mono (hm : MLe m m') (hi : ∀ b, I b → I' b) (hw : WLe w w') (hk : Keeps I w w') {o : Obj} {b : Nat}
  (hb : w'.heap[b]? = w.heap[b]?) (ho : ObjRel m I w o b) : ObjRel m' I' w' o b := by
 cases o with
 | cells cs v => exact CellsAt.mono hm hi hw hk hb ho
 | map es =>
  obtain ⟨ys, clock, hh, hl, hr, hkey⟩ := ho
  exact ⟨ys, clock, by rw [hb]; exact hh, hl, fun i x y hx hy => ⟨(hr i x y hx hy).1.mono hi hk, (hr i x y hx hy).2.mono hm hi hw hk⟩, hkey⟩
 | loop l =>
  obtain ⟨fn, tmps, dfs, hh, hn, he⟩ := ho
  exact ⟨fn, tmps, dfs, by rw [hb]; exact hh, hn, fun s x hx => (he s x hx).mono hm hi hw hk⟩
/-- Memory is as it was where objects lie; values know more. -/
theorem Rel.mono (hm : MLe m m') (hi : ∀ b, I b → I' b) (hw : WLe w w') (hk : ∀ b, b < w.heap.size → w'.heap[b]? = w.heap[b]?)
  (hI : ∀ b, I' b → I b ∨ (w.heap.size ≤ b ∧ (bsize w' b).isSome = true)) (h1 : ∀ id v, h.next ≤ id → m' id v = none)
  (h2 : ∀ id o v, h.get id = some o → o.ver < v → m' id v = none) (h3 : ∀ id v b, m' id v = some b → b < w'.heap.size) (hR : Rel m I w C h) : Rel m' I' w' C h := by
 have hkI : Keeps I w w' := fun b hb => hk b (hR.iLt hb)
 refine ⟨fun id o ho => ?_, fun id o id' o' b ho ho' hb hb' => ?_, hR.lt, h1, h2, h3, fun b hb => ?_, fun g cs hg => (hR.glob g cs hg).mono hi hkI,
  fun id t ht => let ⟨b, h4, h5⟩ := hR.ty id t ht; ⟨b, hm _ _ _ h4, hw.bt b _ h5⟩,
  fun id o e ho he => let ⟨b, n, h4, h5⟩ := hR.el id o e ho he; ⟨b, n, hm _ _ _ h4, hw.bt b _ h5⟩⟩
 ·obtain ⟨b, hb, hn, hob⟩ := hR.obj id o ho
  have hlt := hR.mlt _ _ _ hb
  refine ⟨b, hm _ _ _ hb, fun hI' => ?_, hob.mono hm hi hw hkI (hk b hlt)⟩
  rcases hI b hI' with h4 | h4
  ·exact hn h4
  ·omega
 ·obtain ⟨c, hc, _⟩ := hR.obj id o ho
  obtain ⟨c', hc', _⟩ := hR.obj id' o' ho'
  have e1 := hm _ _ _ hc
  have e2 := hm _ _ _ hc'
  rw [hb] at e1; rw [hb'] at e2
  cases e1; cases e2
  exact hR.inj id o id' o' b ho ho' hc hc'
 ·rcases hI b hb with h4 | h4
  ·rw [bsize_of_block (hk b (hR.iLt h4))]; exact hR.imm b h4
  ·exact h4.2
theorem Tch.mono (hR : Rel m I w C h) (hm : MLe m m') {b : Nat} (ht : Tch m' h b) : Tch m h b := by
 obtain ⟨id, o, ho, hb⟩ := ht
 obtain ⟨c, hc, _⟩ := hR.obj id o ho
 have := hm _ _ _ hc
 rw [hb] at this; cases this
 exact ⟨id, o, ho, hc⟩
theorem LRel.mono (hR : Rel m I w C h) (hm : MLe m m') (hi : ∀ b, I b → I' b) (hw : WLe w w') (hk : ∀ b, b < w.heap.size → w'.heap[b]? = w.heap[b]?)
  (hI : ∀ b, I' b → I b ∨ (w.heap.size ≤ b ∧ (bsize w' b).isSome = true)) (hL : LRel m I w h lm L) : LRel m' I' w' h lm L := by
 have hkI : Keeps I w w' := fun b hb => hk b (hR.iLt hb)
 refine ⟨fun k cs hcs => ?_, hL.inj⟩
 obtain ⟨b, hb, hlt, hn, ht, hc⟩ := hL.obj k cs hcs
 refine ⟨b, hb, Nat.lt_of_lt_of_le hlt hw.size, fun h4 => ?_, fun h4 => ht (h4.mono hR hm), hc.mono hm hi hw hkI (hk b hlt)⟩
 rcases hI b h4 with h5 | h5
 ·exact hn h5
 ·omega
/-- An operation that hands back a value: nothing of the machine's memory has turned. -/
theorem SRel.grow {σ : St} {tmps : Array Value} (hS : SRel C n m I w lm σ tmps) (g : GrowI I w I' w') : SRel C n m I' w' lm σ tmps := by
 have hk : Keeps I w w' := fun b hb => g.old b (hS.rel.iLt hb)
 refine ⟨hS.rel.mono (MLe.refl m) g.sub g.wle g.old g.new hS.rel.fr1 hS.rel.fr2 (fun id v b hb => Nat.lt_of_lt_of_le (hS.rel.mlt id v b hb) g.wle.size),
  hS.loc.mono hS.rel (MLe.refl m) g.sub g.wle g.old g.new, hS.size, fun t x hx => (hS.env t x hx).mono (MLe.refl m) g.sub g.wle hk (fun _ _ _ h => h)⟩
theorem Step.grow (g : GrowI I w I' w') : Step m I w h lm L m I' w' h lm L :=
 ⟨MLe.refl m, g.sub, g.wle, fun b hb _ _ => g.old b hb, fun b hb => (g.new b hb).imp id (fun h => .inl h.1), fun _ h => .inl h, fun _ h => .inl h⟩
/-- A slot is written. -/
theorem SRel.put {σ : St} {tmps : Array Value} (hS : SRel C n m I w lm σ tmps) {d : Nat} (hd : d < n) {x : AV} {v : Value} (hx : VRel m I w lm x v) :
  SRel C n m I w lm { σ with env := upd σ.env d x } (tmps.setIfInBounds d v) := by
 refine ⟨hS.rel, hS.loc, by simpa using hS.size, fun t y hy => ?_⟩
 simp only [upd] at hy
 have hdt : d < tmps.size := Nat.lt_of_lt_of_le hd hS.size
 split at hy
 ·rename_i ht; subst ht
  simp at hy; subst hy
  simpa [Array.getD_eq_getD_getElem?, hdt] using hx
 ·rename_i ht
  have := hS.env t y hy
  simp only [Array.getD_eq_getD_getElem?, Array.getElem?_setIfInBounds] at this ⊢
  rw [if_neg (fun h => ht h.symm)]
  exact this
/-- A slot is written with whatever. -/
theorem SRel.drop {σ : St} {tmps : Array Value} (hS : SRel C n m I w lm σ tmps) (d : Nat) (v : Value) :
  SRel C n m I w lm { σ with env := del σ.env d } (tmps.setIfInBounds d v) := by
 refine ⟨hS.rel, hS.loc, by simpa using hS.size, fun t y hy => ?_⟩
 simp only [del] at hy
 split at hy
 ·cases hy
 ·rename_i ht
  have := hS.env t y hy
  simp only [Array.getD_eq_getD_getElem?, Array.getElem?_setIfInBounds] at this ⊢
  rw [if_neg (fun h => ht h.symm)]
  exact this
theorem SRel.sub {σ σ' : St} {tmps : Array Value} (hS : SRel C n m I w lm σ tmps) (h1 : σ'.h = σ.h) (h2 : σ'.loc = σ.loc)
  (he : ∀ t x, σ'.env t = some x → σ.env t = some x) : SRel C n m I w lm σ' tmps :=
 ⟨h1 ▸ hS.rel, by rw [h1, h2]; exact hS.loc, hS.size, fun t x hx => hS.env t x (he t x hx)⟩
end
end Go.Dv
/- Memory turns: an object is forgotten, its block written, an object laid. -/
namespace Go.Dv
def updM (m : Nat → Nat → Option Nat) (id ver b : Nat) : Nat → Nat → Option Nat := fun i v => if i = id ∧ v = ver then some b else m i v
section
variable {m m' : Nat → Nat → Option Nat} {I I' : Nat → Prop} {w w' : World} {h : Hp} {lm : Nat → Option Nat} {L : Loc} {C : Ctx} {n : Nat} {σ : St} {tmps : Array Value}
theorem updM_le {id ver b : Nat} (hm : m id ver = none ∨ m id ver = some b) : MLe m (updM m id ver b) := by
 intro i v x hx
 unfold updM
 split
 ·rename_i hc; obtain ⟨rfl, rfl⟩ := hc
  rcases hm with hm | hm <;> rw [hm] at hx <;> cases hx
  rfl
 ·exact hx
/-- Nobody of the machine's leans on a block. -/
structure Free (m : Nat → Nat → Option Nat) (I : Nat → Prop) (h : Hp) (lm : Nat → Option Nat) (L : Loc) (b : Nat) : Prop where
 i : ¬ I b
 t : ¬ Tch m h b
 l : ¬ isLoc lm L b
/-- An object is forgotten. -/
theorem SRel.forget (hS : SRel C n m I w lm σ tmps) (id : Nat) : SRel C n m I w lm { σ with h := σ.h.del id } tmps := by
 have hget : ∀ i o, (σ.h.del id).get i = some o → σ.h.get i = some o := by
  intro i o ho
  simp only [Hp.del, Dv.del] at ho
  split at ho
  ·cases ho
  ·exact ho
 refine ⟨⟨fun i o ho => hS.rel.obj i o (hget i o ho), fun i o i' o' b ho ho' => hS.rel.inj i o i' o' b (hget _ _ ho) (hget _ _ ho'), fun i o ho => hS.rel.lt i o (hget i o ho), hS.rel.fr1,
  fun i o v ho => hS.rel.fr2 i o v (hget i o ho), hS.rel.mlt, hS.rel.imm, hS.rel.glob, hS.rel.ty, fun i o e ho he => hS.rel.el i o e (hget i o ho) he⟩, ⟨fun k cs hcs => ?_, hS.loc.inj⟩, hS.size, hS.env⟩
 obtain ⟨b, hb, hlt, hn, ht, hc⟩ := hS.loc.obj k cs hcs
 refine ⟨b, hb, hlt, hn, fun h4 => ht ?_, hc⟩
 obtain ⟨i, o, ho, hm⟩ := h4
 exact ⟨i, o, hget i o ho, hm⟩
theorem SRel.forgotten (hS : SRel C n m I w lm σ tmps) {id : Nat} {o : Obj} {b : Nat} (ho : σ.h.get id = some o) (hb : m id o.ver = some b) :
  Free m I (σ.h.del id) lm σ.loc b := by
 refine ⟨hS.rel.tchNotI ⟨id, o, ho, hb⟩, ?_, ?_⟩
 ·rintro ⟨i, o', ho', hm⟩
  simp only [Hp.del, Dv.del] at ho'
  split at ho'
  ·cases ho'
  ·rename_i hne
   exact hne (hS.rel.inj i o' id o b ho' ho hm hb)
 ·rintro ⟨k, hk, hkb⟩
  obtain ⟨cs, hcs⟩ := Option.isSome_iff_exists.1 hk
  obtain ⟨b', hb', _, _, ht, _⟩ := hS.loc.obj k cs hcs
  rw [hkb] at hb'; cases hb'
  exact ht ⟨id, o, ho, hb⟩
/-- A local block is forgotten, and whoever points into it. -/
def noKey (key : Nat) (env : Env) : Env := fun t => match env t with
 | some (.lptr k o) => if k = key then none else some (.lptr k o)
 | x => x
theorem noKey_some {key : Nat} {env : Env} {t : Nat} {x : AV} (hx : noKey key env t = some x) : env t = some x ∧ ∀ o, x ≠ .lptr key o := by
 unfold noKey at hx
 split at hx
 ·rename_i k o he
  split at hx
  ·cases hx
  ·rename_i hk
   simp at hx; subst hx
   exact ⟨he, fun o' h => by injection h with h1 h2; exact hk h1⟩
 ·rename_i hne
  exact ⟨hx, fun o h => by subst h; exact hne _ _ hx⟩
theorem SRel.forgetL (hS : SRel C n m I w lm σ tmps) (key : Nat) : SRel C n m I w lm { σ with loc := del σ.loc key } tmps := by
 have hget : ∀ i o, (del σ.loc key) i = some o → σ.loc i = some o := by
  intro i o ho
  simp only [del] at ho
  split at ho
  ·cases ho
  ·exact ho
 refine ⟨hS.rel, ⟨fun k cs hcs => hS.loc.obj k cs (hget k cs hcs), fun k k' b hk hk' => ?_⟩, hS.size, hS.env⟩
 obtain ⟨x, hx⟩ := Option.isSome_iff_exists.1 hk
 obtain ⟨y, hy⟩ := Option.isSome_iff_exists.1 hk'
 exact hS.loc.inj k k' b (by simp [hget _ _ hx]) (by simp [hget _ _ hy])
theorem SRel.forgottenL (hS : SRel C n m I w lm σ tmps) {key : Nat} {cs : List AV} {b : Nat} (hcs : σ.loc key = some cs) (hb : lm key = some b) :
  Free m I σ.h lm (del σ.loc key) b := by
 obtain ⟨b', hb', _, hn, ht, _⟩ := hS.loc.obj key cs hcs
 rw [hb] at hb'; cases hb'
 refine ⟨hn, ht, ?_⟩
 rintro ⟨k, hk, hkb⟩
 obtain ⟨x, hx⟩ := Option.isSome_iff_exists.1 hk
 simp only [del] at hx
 split at hx
 ·cases hx
 ·rename_i hne
  exact hne (hS.loc.inj k key b (by simp [hx]) (by simp [hcs]) hkb hb)
/-- A block on which nobody leans is written. -/
theorem SRel.wild (hS : SRel C n m I w lm σ tmps) {b : Nat} (hf : Free m I σ.h lm σ.loc b) (hw : WLe w w') (hk : ∀ x, x ≠ b → x < w.heap.size → w'.heap[x]? = w.heap[x]?) :
  SRel C n m I w' lm σ tmps := by
 have hkI : Keeps I w w' := fun x hx => hk x (fun h => hf.i (h ▸ hx)) (hS.rel.iLt hx)
 refine ⟨⟨fun id o ho => ?_, hS.rel.inj, hS.rel.lt, hS.rel.fr1, hS.rel.fr2, fun id v x hx => Nat.lt_of_lt_of_le (hS.rel.mlt id v x hx) hw.size, fun x hx => ?_,
  fun g cs hg => (hS.rel.glob g cs hg).mono (fun _ h => h) hkI, fun id t ht => let ⟨b, h4, h5⟩ := hS.rel.ty id t ht; ⟨b, h4, hw.bt b _ h5⟩,
  fun id o e ho he => let ⟨b, n, h4, h5⟩ := hS.rel.el id o e ho he; ⟨b, n, h4, hw.bt b _ h5⟩⟩, ⟨fun k cs hcs => ?_, hS.loc.inj⟩, hS.size,
  fun t x hx => (hS.env t x hx).mono (MLe.refl m) (fun _ h => h) hw hkI (fun _ _ _ h => h)⟩
 ·obtain ⟨c, hc, hn, hob⟩ := hS.rel.obj id o ho
  have hne : c ≠ b := fun h => hf.t ⟨id, o, ho, h ▸ hc⟩
  exact ⟨c, hc, hn, hob.mono (MLe.refl m) (fun _ h => h) hw hkI (hk c hne (hS.rel.mlt _ _ _ hc))⟩
 ·rw [bsize_of_block (hk x (fun h => hf.i (h ▸ hx)) (hS.rel.iLt hx))]; exact hS.rel.imm x hx
 ·obtain ⟨c, hc, hlt, hn, ht, hcells⟩ := hS.loc.obj k cs hcs
  have hne : c ≠ b := fun h => hf.l ⟨k, by simp [hcs], h ▸ hc⟩
  exact ⟨c, hc, Nat.lt_of_lt_of_le hlt hw.size, hn, ht, hcells.mono (MLe.refl m) (fun _ h => h) hw hkI (hk c hne hlt)⟩
/-- An object is laid into a block on which nobody leans. -/
theorem SRel.add (hS : SRel C n m I w lm σ tmps) {id b : Nat} {o : Obj} {nx : Nat} (hid : σ.h.get id = none) (hf : Free m I σ.h lm σ.loc b) (hlt : b < w.heap.size)
  (hnx : σ.h.next ≤ nx) (hidn : id < nx) (hm : m id o.ver = none ∨ m id o.ver = some b) (hfr : ∀ v, o.ver < v → m id v = none)
  (ho : ObjRel (updM m id o.ver b) I w o b) (el' : Nat → Option TypeId) (he1 : ∀ i, i ≠ id → el' i = σ.h.el i) (he2 : ∀ e, el' id = some e → ∃ n, btype w b = some (e, n)) :
  SRel C n (updM m id o.ver b) I w lm { σ with h := { next := nx, get := upd σ.h.get id o, ty := σ.h.ty, el := el' } } tmps := by
 have hle := updM_le (b := b) hm
 have hkI : Keeps I w w := Keeps.refl I w
 have heq : ∀ i v, i ≠ id → updM m id o.ver b i v = m i v := by intro i v hi; simp [updM, hi]
 have hself : updM m id o.ver b id o.ver = some b := by simp [updM]
 refine ⟨⟨fun i o' ho' => ?_, fun i o1 i' o2 c h1 h2 e1 e2 => ?_, fun i o' ho' => ?_, fun i v hi => ?_, fun i o' v ho' hv => ?_, fun i v c hc => ?_, hS.rel.imm, hS.rel.glob, fun i t ht => let ⟨b, h4, h5⟩ := hS.rel.ty i t ht; ⟨b, hle _ _ _ h4, h5⟩,
  fun i o' e ho' he' => ?_⟩, ⟨fun k cs hcs => ?_, hS.loc.inj⟩, hS.size,
  fun t x hx => (hS.env t x hx).mono hle (fun _ h => h) (WLe.refl w) hkI (fun _ _ _ h => h)⟩
 ·simp only [upd] at ho'
  split at ho'
  ·rename_i hi; subst hi
   simp at ho'; subst ho'
   exact ⟨b, hself, hf.i, ho⟩
  ·obtain ⟨c, hc, hn, hob⟩ := hS.rel.obj i o' ho'
   exact ⟨c, hle _ _ _ hc, hn, hob.mono hle (fun _ h => h) (WLe.refl w) hkI rfl⟩
 ·simp only [upd] at h1 h2
  split at h1 <;> split at h2
  ·rename_i a1 a2; rw [a1, a2]
  ·rename_i a1 a2; subst a1
   simp at h1; subst h1
   rw [hself] at e1; cases e1
   rw [heq _ _ a2] at e2
   exact absurd ⟨i', o2, h2, e2⟩ hf.t
  ·rename_i a1 a2; subst a2
   simp at h2; subst h2
   rw [hself] at e2; cases e2
   rw [heq _ _ a1] at e1
   exact absurd ⟨i, o1, h1, e1⟩ hf.t
  ·rename_i a1 a2
   rw [heq _ _ a1] at e1; rw [heq _ _ a2] at e2
   exact hS.rel.inj i o1 i' o2 c h1 h2 e1 e2
 ·simp only [upd] at ho'
  split at ho'
  ·rename_i hi; subst hi; exact hidn
  ·exact Nat.lt_of_lt_of_le (hS.rel.lt i o' ho') hnx
 ·have hi' : i ≠ id := by have : nx ≤ i := hi; omega
  rw [heq _ _ hi']
  exact hS.rel.fr1 i v (Nat.le_trans hnx hi)
 ·simp only [upd] at ho'
  split at ho'
  ·rename_i hi; subst hi
   simp at ho'; subst ho'
   have hne : v ≠ o.ver := by omega
   have : updM m i o.ver b i v = m i v := by simp [updM, hne]
   rw [this]
   exact hfr v hv
  ·rename_i hi
   rw [heq _ _ hi]
   exact hS.rel.fr2 i o' v ho' hv
 ·unfold updM at hc
  split at hc
  ·simp at hc; subst hc; exact hlt
  ·exact hS.rel.mlt _ _ _ hc
 ·simp only [upd] at ho'
  split at ho'
  ·rename_i hi; subst hi
   simp at ho'; subst ho'
   obtain ⟨n, hn⟩ := he2 e he'
   exact ⟨b, n, hself, hn⟩
  ·rename_i hi
   have he3 : el' i = some e := he'
   rw [he1 i hi] at he3
   obtain ⟨b1, n, h4, h5⟩ := hS.rel.el i o' e ho' he3
   exact ⟨b1, n, hle _ _ _ h4, h5⟩
 ·obtain ⟨c, hc, hlt', hn, ht, hcells⟩ := hS.loc.obj k cs hcs
  refine ⟨c, hc, hlt', hn, fun h4 => ?_, hcells.mono hle (fun _ h => h) (WLe.refl w) hkI rfl⟩
  obtain ⟨i, o', ho', hi⟩ := h4
  by_cases hid' : i = id
  ·have ho2 : o' = o := by simpa [upd, hid'] using ho'.symm
   rw [hid', ho2, hself] at hi; cases hi
   exact hf.l ⟨k, by rw [show σ.loc k = some cs from hcs]; rfl, hc⟩
  ·rw [heq _ _ hid'] at hi
   have ho2 : σ.h.get i = some o' := by simpa [upd, hid'] using ho'
   exact ht ⟨i, o', ho2, hi⟩
/-- A block on which nobody leans is deep data from now on. -/
theorem SRel.immut (hS : SRel C n m I w lm σ tmps) {b : Nat} (hf : Free m I σ.h lm σ.loc b) (hb : (bsize w b).isSome = true) :
  SRel C n m (fun x => I x ∨ x = b) w lm σ tmps := by
 have hsub : ∀ x, I x → I x ∨ x = b := fun _ h => .inl h
 have hkI : Keeps I w w := Keeps.refl I w
 refine ⟨⟨fun id o ho => ?_, hS.rel.inj, hS.rel.lt, hS.rel.fr1, hS.rel.fr2, hS.rel.mlt, fun x hx => ?_, fun g cs hg => (hS.rel.glob g cs hg).mono hsub hkI, hS.rel.ty, hS.rel.el⟩,
  ⟨fun k cs hcs => ?_, hS.loc.inj⟩, hS.size, fun t x hx => (hS.env t x hx).mono (MLe.refl m) hsub (WLe.refl w) hkI (fun _ _ _ h => h)⟩
 ·obtain ⟨c, hc, hn, hob⟩ := hS.rel.obj id o ho
  refine ⟨c, hc, fun h4 => ?_, hob.mono (MLe.refl m) hsub (WLe.refl w) hkI rfl⟩
  rcases h4 with h4 | h4
  ·exact hn h4
  ·exact hf.t ⟨id, o, ho, h4 ▸ hc⟩
 ·rcases hx with hx | rfl
  ·exact hS.rel.imm x hx
  ·exact hb
 ·obtain ⟨c, hc, hlt', hn, ht, hcells⟩ := hS.loc.obj k cs hcs
  refine ⟨c, hc, hlt', fun h4 => ?_, ht, hcells.mono (MLe.refl m) hsub (WLe.refl w) hkI rfl⟩
  rcases h4 with h4 | h4
  ·exact hn h4
  ·exact hf.l ⟨k, by simp [hcs], h4 ▸ hc⟩
/-- A local block is laid, under a slot's key; nobody points there by that key. -/
theorem SRel.addL (hS : SRel C n m I w lm σ tmps) {key b : Nat} {cs : List AV} (hid : σ.loc key = none) (hf : Free m I σ.h lm σ.loc b) (hlt : b < w.heap.size)
  (he : ∀ t x, σ.env t = some x → ∀ o, x ≠ .lptr key o) (ho : CellsAt m I w b cs) : SRel C n m I w (upd lm key b) { σ with loc := upd σ.loc key cs } tmps := by
 have heq : ∀ k, k ≠ key → upd lm key b k = lm k := by intro k hk; simp [upd, hk]
 have hself : upd lm key b key = some b := by simp [upd]
 refine ⟨hS.rel, ⟨fun k cs' hcs => ?_, fun k k' c hk hk' h1 h2 => ?_⟩, hS.size, fun t x hx => ?_⟩
 ·simp only [upd] at hcs
  split at hcs
  ·rename_i hk; subst hk
   simp at hcs; subst hcs
   exact ⟨b, hself, hlt, hf.i, hf.t, ho⟩
  ·rename_i hk
   obtain ⟨c, hc, r⟩ := hS.loc.obj k cs' hcs
   exact ⟨c, by rw [heq k hk]; exact hc, r⟩
 ·by_cases e1 : k = key
  ·by_cases e2 : k' = key
   ·rw [e1, e2]
   ·subst e1
    rw [hself] at h1; cases h1
    rw [heq k' e2] at h2
    simp only [upd, e2, if_false] at hk'
    exact absurd ⟨k', hk', h2⟩ hf.l
  ·by_cases e2 : k' = key
   ·subst e2
    rw [hself] at h2; cases h2
    rw [heq k e1] at h1
    simp only [upd, e1, if_false] at hk
    exact absurd ⟨k, hk, h1⟩ hf.l
   ·rw [heq k e1] at h1; rw [heq k' e2] at h2
    simp only [upd, e1, e2, if_false] at hk hk'
    exact hS.loc.inj k k' c hk hk' h1 h2
 ·rcases hS.env t x hx with ⟨k, o, c, rfl, hc, hv⟩ | hu
  ·have hk : k ≠ key := fun h => he t _ hx o (by rw [h])
   exact .inl ⟨k, o, c, rfl, by rw [heq k hk]; exact hc, hv⟩
  ·exact .inr hu
end
end Go.Dv
/- Composite values. -/
namespace Go.Dv
section
variable {C : Ctx} {m : Nat → Nat → Option Nat} {I : Nat → Prop} {w : World} {lm : Nat → Option Nat} {h : Hp} {L : Loc}
theorem putAt_length {α : Type} {l new : List α} {off : Nat} (h : off + new.length ≤ l.length) : (putAt l off new).length = l.length := by
 simp [putAt]; omega
theorem putAt_get {α : Type} {l new : List α} {off i : Nat} (h : off + new.length ≤ l.length) :
  (putAt l off new)[i]? = if off ≤ i ∧ i < off + new.length then new[i - off]? else l[i]? := by
 unfold putAt
 by_cases h1 : i < off
 ·rw [List.append_assoc, List.getElem?_append_left (by simp; omega), List.getElem?_take_of_lt h1, if_neg (by omega)]
 ·by_cases h2 : i < off + new.length
  ·rw [List.append_assoc, List.getElem?_append_right (by simp; omega), List.getElem?_append_left (by simp; omega), if_pos ⟨by omega, h2⟩]
   congr 1; simp; omega
  ·rw [List.getElem?_append_right (by simp; omega), if_neg (by omega), List.getElem?_drop]
   congr 1; simp; omega
theorem foldl_set {off : Nat} : ∀ (new : List Value) (k : Nat) (cells : Array Value), off + k + new.length ≤ cells.size →
  ((new.zipIdx k).foldl (fun cs (x : Value × Nat) => cs.setIfInBounds (off + x.2) x.1) cells).toList = putAt cells.toList (off + k) new
 | [], k, cells, _ => by simp [putAt]
 | v :: r, k, cells, hl => by
  simp only [List.length_cons] at hl
  simp only [List.zipIdx_cons, List.foldl_cons]
  rw [foldl_set r (k + 1) _ (by simp; omega)]
  apply List.ext_getElem?
  intro i
  rw [putAt_get (by simp; omega), putAt_get (by simp; omega)]
  simp only [Array.toList_setIfInBounds, List.length_cons]
  by_cases h1 : off + k ≤ i ∧ i < off + k + (r.length + 1)
  ·rw [if_pos h1]
   by_cases h2 : i = off + k
   ·subst h2
    rw [if_neg (by omega), List.getElem?_set_self (by simp; omega)]
    simp
   ·rw [if_pos (by omega)]
    rw [show i - (off + k) = (i - (off + (k + 1))) + 1 by omega]
    simp
  ·rw [if_neg h1, if_neg (by omega), List.getElem?_set]
   rw [if_neg (by omega)]
theorem cells_rel {v : AV} {x : Value} (hr : URel m I w v x) : URels m I w v.cells x.cells.toList := by
 cases v with
 | d dv =>
  cases dv with
  | agg cs =>
   have := hr.toD
   cases this with
   | agg _ vs hl hq =>
    refine ⟨by simpa [AV.cells, Value.cells] using hl, fun i a b ha hb => ?_⟩
    simp only [AV.cells, List.getElem?_map, Option.map_eq_some_iff] at ha
    obtain ⟨z, hz, rfl⟩ := ha
    exact .d _ _ (hq i z b hz (by simpa [Value.cells] using hb))
  | _ =>
   have hd := hr.toD
   cases hd <;> exact ⟨rfl, fun i a b ha hb => by
    cases i with
    | zero => simp [AV.cells, Value.cells] at ha hb; subst ha; subst hb; exact hr
    | succ i => simp [AV.cells] at ha⟩
 | agg cs =>
  cases hr with
  | agg _ vs hl hq => exact ⟨by simpa [AV.cells, Value.cells] using hl, fun i a b ha hb => hq i a b (by simpa [AV.cells] using ha) (by simpa [Value.cells] using hb)⟩
 | _ =>
  cases hr <;> exact ⟨rfl, fun i a b ha hb => by
   cases i with
   | zero => simp [AV.cells, Value.cells] at ha hb; subst ha; subst hb; first | assumption | (constructor <;> assumption)
   | succ i => simp [AV.cells] at ha⟩
theorem isCell_one {v : AV} {x : Value} (hr : URel m I w v x) (hc : v.isCell = true) : x.oneCell' = true := by
 cases v with
 | d dv => cases dv <;> simp [AV.isCell] at hc <;> (have := hr.toD; cases this; rfl)
 | agg _ => simp [AV.isCell] at hc
 | tuple _ => simp [AV.isCell] at hc
 | lptr _ _ => simp [AV.isCell] at hc
 | _ => cases hr; rfl
theorem fillA_rel {place : Nat → Option (Nat × Nat)} : ∀ (parts : List (Nat × AV)) (vs : List (Nat × Value)) (cells r : List AV) (cv : Array Value),
  vs.length = parts.length → (∀ (i : Nat) x y, parts[i]? = some x → vs[i]? = some y → x.1 = y.1 ∧ URel m I w x.2 y.2) → URels m I w cells cv.toList →
  fillA place cells parts = some r → ∃ rv : Array Value, Instr.fill place cv vs = some rv ∧ URels m I w r rv.toList ∧ r.length = cells.length
 | [], vs, cells, r, cv, hl, _, hc, hr => by
  simp [fillA] at hr; subst hr
  cases vs with
  | nil => exact ⟨cv, rfl, hc, rfl⟩
  | cons _ _ => simp at hl
 | (i, v) :: parts, vs, cells, r, cv, hl, hrel, hc, hr => by
  cases vs with
  | nil => simp at hl
  | cons y vs =>
   obtain ⟨j, x⟩ := y
   obtain ⟨hij, hvx⟩ := hrel 0 (i, v) (j, x) rfl rfl
   simp only at hij hvx
   subst hij
   simp only [fillA] at hr
   split at hr
   ·cases hr
   ·rename_i off size hp
    split at hr
    ·cases hr
    ·rename_i hcond
     simp only [not_or, Nat.not_lt, Bool.not_eq_true', Bool.not_eq_false, Decidable.not_not] at hcond
     obtain ⟨hs1, hs2, hs3⟩ := hcond
     have hcr := cells_rel hvx
     have hsz : x.cells.size = v.cells.length := by have := hcr.1; simpa using this
     have hcv : cv.size = cells.length := by have := hc.1; simpa using this
     have hfold := foldl_set (off := off) x.cells.toList 0 cv (by simp; omega)
     have hput : URels m I w (putAt cells off v.cells) ((x.cells.zipIdx.foldl (fun cs (c : Value × Nat) => cs.setIfInBounds (off + c.2) c.1) cv)).toList := by
      have he : (x.cells.zipIdx.foldl (fun cs (c : Value × Nat) => cs.setIfInBounds (off + c.2) c.1) cv).toList = putAt cv.toList off x.cells.toList := by
       rw [← Array.foldl_toList]
       simpa using hfold
      rw [he]
      refine ⟨by rw [putAt_length (by simp; omega), putAt_length (by omega)]; simpa using hcv, fun k a b ha hb => ?_⟩
      rw [putAt_get (by omega)] at ha
      rw [putAt_get (by simp; omega)] at hb
      have hlen : x.cells.toList.length = v.cells.length := by simpa using hsz
      rw [hlen] at hb
      split at ha
      ·rename_i hk
       rw [if_pos hk] at hb
       exact hcr.2 _ a b ha hb
      ·rename_i hk
       rw [if_neg hk] at hb
       exact hc.2 _ a b ha hb
     obtain ⟨rv, h1, h2, h3⟩ := fillA_rel parts vs _ r _ (by simpa using hl) (fun k a b ha hb => hrel (k + 1) a b (by simpa using ha) (by simpa using hb)) hput hr
     refine ⟨rv, ?_, h2, by rw [h3, putAt_length (by omega)]⟩
     have hno : ¬ ((x.cells.size ≠ size) || decide (off + x.cells.size > cv.size)) = true := by
      simp; omega
     simp only [Instr.fill, hp]
     rw [if_neg (by simpa using hno)]
     exact h1
theorem zero_cells (hC : COk C) {t : TypeId} {ti : TI} (ht : C.T t = some ti) : ∃ z, (∀ w : World, (zeroValue t).run C.P w = .ok z w) ∧ URels m I w (ti.zero.map .d) z.cells.toList ∧ z.cells.size = ti.size ∧
  (∀ x ∈ ti.zero, (AV.d x).isCell = true) := by
 obtain ⟨i, hi, hsz, _, hz, hzl, h1⟩ := (hC _ _ ht).info
 have hplain := (hC _ _ ht).plain
 have hcell : ∀ x ∈ ti.zero, (AV.d x).isCell = true := by
  intro x hx
  have := hplain x hx
  cases x <;> simp [dplain] at this <;> rfl
 refine ⟨_, fun w => run_zero_i w hi hz, ?_⟩
 cases ha : ti.agg with
 | true =>
  simp only [if_true]
  refine ⟨⟨by simp [Value.cells], fun j x y hx hy => ?_⟩, by simpa [Value.cells] using hzl, hcell⟩
  simp only [Value.cells, List.getElem?_map, Option.map_eq_some_iff] at hx hy
  obtain ⟨x', hx', rfl⟩ := hx
  obtain ⟨y', hy', rfl⟩ := hy
  rw [hx'] at hy'; cases hy'
  exact .d _ _ (dplain_rel (hplain x' (List.mem_of_getElem? hx')))
 | false =>
  have hone := h1 ha
  match hez : ti.zero, hone ▸ hzl with
  | [c], _ =>
   have hpc := hplain c (by simp [hez])
   simp only [Bool.false_eq_true, if_false, List.headD_cons]
   have hvc : (dval c).cells = #[dval c] := by cases c <;> simp [dplain] at hpc <;> rfl
   refine ⟨⟨by simp [hvc], fun j x y hx hy => ?_⟩, by simp [hvc, hone], by rw [← hez]; exact hcell⟩
   cases j with
   | zero => simp [hvc] at hx hy; subst hx; subst hy; exact .d _ _ (dplain_rel hpc)
   | succ j => simp at hx
theorem run_places {P : Program} : ∀ (l : List Field) (xs : List (Nat × Nat × Bool)), l.length = xs.length → (∀ (i : Nat) f x, l[i]? = some f → xs[i]? = some x → fieldOk P f x) →
  (l.mapM fun f => do pure (f.offset, ← sizeOf f.type) : Sem (List (Nat × Nat))).run P w = .ok (xs.map fun x => (x.1, x.2.1)) w
 | [], xs, hl, _ => by
  cases xs with
  | nil => simp
  | cons _ _ => simp at hl
 | f :: l, xs, hl, hf => by
  cases xs with
  | nil => simp at hl
  | cons x xs =>
   obtain ⟨ho, _, _, i, d, hi, hsz, _⟩ := hf 0 f x rfl rfl
   have ih := run_places l xs (by simpa using hl) (fun k a b ha hb => hf (k + 1) a b (by simpa using ha) (by simpa using hb))
   simp only [List.mapM_cons, Sem.run_bind, run_sizeOf_i w hi, Result.andThen_ok, Sem.run_pure, ih, hsz, List.map_cons, ho]
theorem buildA_rel (hC : COk C) {t : TypeId} {parts : List (Nat × AV)} {vs : List (Nat × Value)} {r : AV} (hl : vs.length = parts.length)
  (hrel : ∀ (i : Nat) x y, parts[i]? = some x → vs[i]? = some y → x.1 = y.1 ∧ URel m I w x.2 y.2) (hr : buildA C t parts = some r) :
  ∃ v, (Instr.build t ⟨vs⟩).run C.P w = .ok v w ∧ URel m I w r v := by
 unfold buildA at hr
 split at hr
 ·rename_i fs z _ _ _ hti
  obtain ⟨gs, hu, hlen, hok⟩ := T_struct hC hti
  obtain ⟨zv, hz, hzc, _, _⟩ := zero_cells (m := m) (I := I) (w := w) hC hti
  split at hr
  ·rename_i cs hf
   simp only [Option.some.injEq] at hr; subst hr
   obtain ⟨rv, h1, h2, _⟩ := fillA_rel parts vs _ cs zv.cells hl hrel hzc hf
   refine ⟨.agg rv, ?_, mkAgg_rel (vs := rv.toList) h2⟩
   have hpl := run_places (P := C.P) (w := w) gs.toList fs (by simpa using hlen) (fun i f x hf hx => hok i f x (by simpa using hf) hx)
   have hpl' : (gs.mapM fun f => do pure (f.offset, ← sizeOf f.type) : Sem (Array (Nat × Nat))).run C.P w = .ok ⟨fs.map fun x => (x.1, x.2.1)⟩ w := by
    rw [Array.mapM_eq_mapM_toList]
    simp only [Sem.run_map, hpl, Result.andThen_ok]
   have hpf : (fun i : Nat => (⟨fs.map fun x => (x.1, x.2.1)⟩ : Array (Nat × Nat))[i]?) = (fun i : Nat => (fs[i]?).map fun f : Nat × Nat × Bool => (f.1, f.2.1)) := by
    funext i; simp
   unfold Instr.build
   simp only [Sem.run_bind, hz, Result.andThen_ok, run_underlying hu, hpl', hpf, h1, Sem.run_pure]
  ·cases hr
 ·rename_i n e z _ _ _ hti
  obtain ⟨hu, _⟩ := T_array hC hti
  obtain ⟨zv, hz, hzc, _, _⟩ := zero_cells (m := m) (I := I) (w := w) hC hti
  split at hr
  ·rename_i ei hei
   obtain ⟨ie, hie, hsz, _⟩ := T_info hC hei
   split at hr
   ·rename_i cs hf
    simp only [Option.some.injEq] at hr; subst hr
    obtain ⟨rv, h1, h2, _⟩ := fillA_rel parts vs _ cs zv.cells hl hrel hzc hf
    refine ⟨.agg rv, ?_, mkAgg_rel (vs := rv.toList) h2⟩
    unfold Instr.build
    simp only [Sem.run_bind, hz, Result.andThen_ok, run_underlying hu, run_sizeOf_i w hie, hsz, h1, Sem.run_pure]
   ·cases hr
  ·cases hr
 ·cases hr
end
end Go.Dv
/- New memory. -/
namespace Go.Dv
def putD (n : Nat) (env : Env) (dst : Option Nat) (v : AV) : Option Env :=
 match dst with
 | none => some env
 | some d => if d < n then some (upd env d v) else none
def dropD (env : Env) (dst : Option Nat) : Env :=
 match dst with
 | none => env
 | some d => del env d
/-- A value comes into a slot; where the notes say so it is deep data from now on. -/
def putV (A : FAnn) (n : Nat) (dst : Option Nat) (σ : St) (v : AV) : Option St :=
 match dst with
 | none => some σ
 | some d =>
  if d ∈ A.frz then match frzV 400 σ.h v with
   | some (x, h') => if d < n then some { σ with env := upd σ.env d (.d x), h := h' } else none
   | none => none
  else if d < n then some { σ with env := upd σ.env d v } else none
def applyEff (A : FAnn) (n : Nat) (dst : Option Nat) (σ : St) : Eff → Option St
 | .val v => putV A n dst σ v
 | .skip => some { σ with env := dropD σ.env dst }
 | .newL cells => match dst with
  | some d => if d < n then some { σ with env := upd (noKey d σ.env) d (.lptr d 0), loc := upd σ.loc d cells } else none
  | none => none
 | .setL key cells => some { σ with env := dropD σ.env dst, loc := upd σ.loc key cells }
 | .newCells cs len sz e => (putD n σ.env dst (.msl σ.h.next 0 len 0 sz)).map fun env => { σ with env := env, h := { σ.h.alloc (.cells cs 0) with el := upd σ.h.el σ.h.next e } }
 | .grow id cs ver v e => putV A n dst { σ with h := { σ.h.set id (.cells cs ver) with el := σ.h.keepEl id e } } v
 | .newVar cs t => (putD n σ.env dst (.ptr σ.h.next 0 0)).map fun e => { σ with env := e, h := { σ.h.alloc (.cells cs 0) with ty := upd σ.h.ty σ.h.next (t, cs.length) } }
 | .newMap => (putD n σ.env dst (.map σ.h.next)).map fun e => { σ with env := e, h := σ.h.alloc (.map []) }
 | .setH id o none => some { σ with env := dropD σ.env dst, h := σ.h.set id o }
 | .setH id o (some v) => putV A n dst { σ with h := σ.h.set id o } v
 | _ => none
section
variable {C : Ctx} {n : Nat} {m m' : Nat → Nat → Option Nat} {I I' : Nat → Prop} {w w' : World} {lm lm' : Nat → Option Nat} {σ σ' : St} {tmps : Array Value}
theorem alloc_old (w : World) (o : Go.Obj) {b : Nat} (hb : b < w.heap.size) : (w.alloc o).heap[b]? = w.heap[b]? := by
 show (w.heap.push o)[b]? = _
 rw [Array.getElem?_push, if_neg (by omega)]
theorem alloc_new (w : World) (o : Go.Obj) : (w.alloc o).heap[w.heap.size]? = some o := by
 show (w.heap.push o)[w.heap.size]? = _
 simp
theorem alloc_size (w : World) (o : Go.Obj) : (w.alloc o).heap.size = w.heap.size + 1 := by
 show (w.heap.push o).size = _
 simp
theorem WLe.alloc (w : World) (o : Go.Obj) : WLe w (w.alloc o) :=
 ⟨rfl, rfl, rfl, by rw [alloc_size]; omega, fun b k hb => by rw [btype_of_block (alloc_old w o (lt_of_btype hb))]; exact hb⟩
theorem GrowI.alloc (I : Nat → Prop) (w : World) (o : Go.Obj) : GrowI I w I (w.alloc o) :=
 ⟨fun _ h => h, WLe.alloc w o, fun _ hb => alloc_old w o hb, fun _ h => .inl h⟩
theorem GrowI.trans {I'' : Nat → Prop} {w'' : World} (a : GrowI I w I' w') (b : GrowI I' w' I'' w'') : GrowI I w I'' w'' := by
 have hs := a.wle.size
 refine ⟨fun x hx => b.sub x (a.sub x hx), a.wle.trans b.wle, fun x hx => ?_, fun x hx => ?_⟩
 ·rw [b.old x (by omega), a.old x hx]
 ·rcases b.new x hx with h | h
  ·rcases a.new x h with h | h
   ·exact .inl h
   ·refine .inr ⟨h.1, ?_⟩
    obtain ⟨k, hk⟩ := Option.isSome_iff_exists.1 h.2
    rw [b.wle.bs _ _ hk]; rfl
  ·exact .inr ⟨by omega, h.2⟩
/-- A draw turns no memory. -/
theorem GrowI.drew (I : Nat → Prop) (w : World) : GrowI I w I { w with drawn := w.drawn + 1 } :=
 ⟨fun _ h => h, ⟨rfl, rfl, rfl, Nat.le_refl _, fun _ _ h => h⟩, fun _ _ => rfl, fun _ h => .inl h⟩
/-- A new block, on which nobody leans. -/
theorem SRel.free_new (hS : SRel C n m I w lm σ tmps) : Free m I σ.h lm σ.loc w.heap.size := by
 refine ⟨fun h => ?_, fun h => ?_, ?_⟩
 ·exact absurd (hS.rel.iLt h) (by omega)
 ·exact absurd (hS.rel.tchLt h) (by omega)
 ·rintro ⟨k, hk, hb⟩
  obtain ⟨cs, hcs⟩ := Option.isSome_iff_exists.1 hk
  obtain ⟨c, hc, hlt, _⟩ := hS.loc.obj k cs hcs
  rw [hb] at hc; cases hc
  omega
theorem SRel.next_none (hS : SRel C n m I w lm σ tmps) : σ.h.get σ.h.next = none := by
 cases hg : σ.h.get σ.h.next with
 | none => rfl
 | some o => exact absurd (hS.rel.lt _ _ hg) (by omega)
/-- A new object of the heap: the block has just been laid at the world's end. -/
theorem SRel.newObj (hS : SRel C n m I w lm σ tmps) {b : Nat} {o : Obj} (hb : b < w.heap.size) (hf : Free m I σ.h lm σ.loc b) (hv : o.ver = 0)
  (ho : ObjRel (updM m σ.h.next 0 b) I w o b) : SRel C n (updM m σ.h.next 0 b) I w lm { σ with h := σ.h.alloc o } tmps := by
 have := SRel.add hS (id := σ.h.next) (b := b) (o := o) (nx := σ.h.next + 1) hS.next_none hf hb (by omega) (by omega) (.inl (hS.rel.fr1 _ _ (Nat.le_refl _)))
  (fun v _ => hS.rel.fr1 _ _ (Nat.le_refl _)) (by rw [hv]; exact ho) (Dv.del σ.h.el σ.h.next) (fun i hi => by simp [del, hi]) (fun e he => by simp [del] at he)
 rw [hv] at this
 exact this
/-- A new object, the type of its elements told. -/
theorem SRel.newObjE (hS : SRel C n m I w lm σ tmps) {b : Nat} {o : Obj} {e : TypeId} {k : Nat} (hb : b < w.heap.size) (hf : Free m I σ.h lm σ.loc b) (hv : o.ver = 0)
  (ho : ObjRel (updM m σ.h.next 0 b) I w o b) (hbt : btype w b = some (e, k)) :
  SRel C n (updM m σ.h.next 0 b) I w lm { σ with h := { σ.h.alloc o with el := upd σ.h.el σ.h.next e } } tmps := by
 have := SRel.add hS (id := σ.h.next) (b := b) (o := o) (nx := σ.h.next + 1) hS.next_none hf hb (by omega) (by omega) (.inl (hS.rel.fr1 _ _ (Nat.le_refl _)))
  (fun v _ => hS.rel.fr1 _ _ (Nat.le_refl _)) (by rw [hv]; exact ho) (upd σ.h.el σ.h.next e) (fun i hi => by simp [upd, hi]) (fun e' he => by simp [upd] at he; subst he; exact ⟨k, hbt⟩)
 rw [hv] at this
 exact this
theorem Step.newObj (hS : SRel C n m I w lm σ tmps) {b : Nat} {o : Obj} (hg : GrowI I w I' w') (hb : w.heap.size ≤ b) :
  Step m I w σ.h lm σ.loc (updM m σ.h.next 0 b) I' w' (σ.h.alloc o) lm σ.loc := by
 refine ⟨updM_le (.inl (hS.rel.fr1 _ _ (Nat.le_refl _))), hg.sub, hg.wle, fun x hx _ _ => hg.old x hx, fun x hx => (hg.new x hx).imp id (fun h => .inl h.1), fun x hx => ?_, fun _ h => .inl h⟩
 obtain ⟨i, o', ho', hm⟩ := hx
 simp only [Hp.alloc, upd] at ho'
 unfold updM at hm
 split at hm
 ·simp at hm; right; omega
 ·rename_i hc
  split at ho'
  ·rename_i hi; subst hi
   rw [hS.rel.fr1 _ _ (Nat.le_refl _)] at hm; cases hm
  ·exact .inl ⟨i, o', ho', hm⟩
theorem repeat_rel {z : List AV} {zv : Array Value} (hz : URels m I w z zv.toList) : ∀ (len : Nat),
  URels m I w (repeatL z len) ((Array.range (len * zv.size)).map fun i => zv[i % zv.size]!).toList
 | 0 => by
  refine ⟨by simp [repeatL], fun i a b ha => ?_⟩
  simp [repeatL] at ha
 | len + 1 => by
  have ih := repeat_rel hz len
  have hsz : z.length = zv.size := by have := hz.1; simpa using this.symm
  refine ⟨?_, fun i a b ha hb => ?_⟩
  ·have := ih.1
   simp [repeatL] at this ⊢
   rw [← this, hsz, Nat.add_mul]; omega
  ·have hlt : i < (len + 1) * zv.size := by
    have := (List.getElem?_eq_some_iff.1 hb).1
    simpa using this
   simp only [Array.toList_map, Array.toList_range, List.getElem?_map, List.getElem?_range hlt, Option.map_some, Option.some.injEq] at hb
   subst hb
   have hpos : 0 < zv.size := by
    rcases Nat.eq_zero_or_pos zv.size with h | h
    ·rw [h] at hlt; simp at hlt
    ·exact h
   have hmod : i % zv.size < zv.size := Nat.mod_lt _ hpos
   simp only [repeatL] at ha
   have hgoal : z[i % zv.size]? = some a := by
    by_cases h1 : i < z.length
    ·rw [List.getElem?_append_left h1] at ha
     rw [Nat.mod_eq_of_lt (by omega)]; exact ha
    ·rw [List.getElem?_append_right (by omega)] at ha
     have hi' : i - z.length < len * zv.size := by rw [hsz, Nat.add_mul] at *; omega
     have h3 := ih.2 (i - z.length) a (zv[(i - z.length) % zv.size]!) ha (by
      simp [List.getElem?_range hi'])
     have hrep : ∀ (k j : Nat) x, (repeatL z k)[j]? = some x → z[j % zv.size]? = some x := by
      intro k
      induction k with
      | zero => intro j x hx; simp [repeatL] at hx
      | succ k ihk =>
       intro j x hx
       simp only [repeatL] at hx
       by_cases h2 : j < z.length
       ·rw [List.getElem?_append_left h2] at hx
        rw [Nat.mod_eq_of_lt (by omega)]; exact hx
       ·rw [List.getElem?_append_right (by omega)] at hx
        have := ihk _ x hx
        rw [hsz] at this
        rwa [← Nat.mod_eq_sub_mod (by omega)] at this
     have := hrep len _ a ha
     rw [hsz, ← Nat.mod_eq_sub_mod (by omega)] at this
     exact this
   refine hz.2 (i % zv.size) a _ hgoal ?_
   simp [hmod]
theorem CellsAt_of_new {cs : List AV} {cv : Array Value} {e : TypeId} {b : Nat} (hb : w.heap[b]? = some (.cells cv e (0, 0))) (hr : URels m I w cs cv.toList) : CellsAt m I w b cs := by
 have hl : cv.size = cs.length := by have := hr.1; simpa using this
 refine ⟨cv, e, hb, by omega, fun i x hx => ?_⟩
 have hi : i < cv.size := by have := (List.getElem?_eq_some_iff.1 hx).1; omega
 exact ⟨cv[i], by simp [hi], hr.2 i x _ hx (by simp [hi])⟩
theorem CellsAt_of_prefix {cs : List AV} {vs : List Value} {cv : Array Value} {e : TypeId} {b : Nat} (hb : w.heap[b]? = some (.cells cv e (0, 0))) (hr : URels m I w cs vs)
  (hp : vs <+: cv.toList) : CellsAt m I w b cs := by
 obtain ⟨r, hr2⟩ := hp
 have hl := hr.1
 have hsz : cv.size = vs.length + r.length := by rw [← Array.length_toList, ← hr2]; simp
 refine ⟨cv, e, hb, by omega, fun i x hx => ?_⟩
 have hi : i < vs.length := by have := (List.getElem?_eq_some_iff.1 hx).1; omega
 refine ⟨vs[i], ?_, hr.2 i x _ hx (by simp [hi])⟩
 rw [← Array.getElem?_toList, ← hr2, List.getElem?_append_left hi]
 simp [hi]
end
end Go.Dv
