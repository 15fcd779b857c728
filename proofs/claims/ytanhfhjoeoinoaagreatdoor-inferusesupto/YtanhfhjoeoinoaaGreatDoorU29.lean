/- A part of the proof of InferUses, second form: for every input of bulk at most 1048576 the call returns true and the arguments read as they did. Its condition: that bulk. -/
import Derived.Test.YtanhfhjoeoinoaaGreatDoorU28
/- Close. -/
namespace Go.Dv.Us
open Go.Dv.K Go.Proofs
theorem r_cellL {C : Ctx} {σ : SSt} {a key off : Nat} {t : TypeId} {v : AV} {ti : TI} {cs r : List AV} (ha : lk σ.env a = some (.lptr key off)) (hg : lk σ.loc key = some cs) (ht : C.T t = some ti) (hr : takeExact ti.size off cs = some r) (hv : oneOf ti.agg r = some v) : resA C σ.to (.cell a t) = some v := by
 simp only [resA, SSt.to, ha, loadA, ht, hg, hr, hv]
def varTy (n : Nat) : Ty := .mk 1 (n : Nat) [] true []
def ty0 : Ty := .mk 0 0 [] true []
theorem getN_nums_none : ∀ {l : List Nat} {k v : Nat}, v ∉ l → getN (l.zipIdx k) v = none
 | [], _, _, _ => rfl
 | a :: l, k, v, h => by
  have h1 : a ≠ v := fun h2 => h (by simp [h2])
  simp only [List.zipIdx_cons, getN, if_neg h1]
  exact getN_nums_none fun h3 => h (by simp [h3])
/-- The numbers that were given so far. -/
structure NM (mb mp : Nat) (l : List Nat) (h : Hp) : Prop where
 gm : h.get mb = some (.cells [.map mp] 0)
 hm : h.get mp = some (.map (ents (fun z : Nat => vint z) (numsOf l)))
 ne : mb ≠ mp
 l1 : mb < h.next
 l2 : mp < h.next
/-- All but the numbers is as it was. -/
structure But (mp : Nat) (h h' : Hp) : Prop where
 next : h.next ≤ h'.next
 keep : ∀ id, id < h.next → id ≠ mp → h'.get id = h.get id
theorem But.refl {mp : Nat} {h : Hp} : But mp h h := ⟨Nat.le_refl _, fun _ _ _ => rfl⟩
theorem But.trans {mp : Nat} {h h1 h2 : Hp} (a : But mp h h1) (b : But mp h1 h2) : But mp h h2 :=
 ⟨Nat.le_trans a.next b.next, fun id h3 h4 => (b.keep id (Nat.lt_of_lt_of_le h3 a.next) h4).trans (a.keep id h3 h4)⟩
theorem idx_snoc {l : List Nat} {v : Nat} (h : v ∉ l) : idx (l ++ [v]) v = l.length := by
 unfold idx
 rw [List.idxOf_append, if_neg h]
 simp
theorem close1_ret {mb mp : Nat} {l : List Nat} {num : Nat} {h : Hp} (N : NM mb mp l h) (hl : l.length ≤ 2 ^ 30) :
  Ret ctx Or Xo 64 [vint num, .ptr mb 0 0] h (fun v h' => v = (varTy (idx (addV l num) num)).agg ∧ NM mb mp (addV l num) h' ∧ But mp h h') := by
 refine body (env := [(0, vint num), (1, .ptr mb 0 0)]) (rs := [.cell 3 40]) Tryz.func64 rfl rfl Tryz.ntmps64 rfl rfl ?_
 refine s_seq <| s_region ?_
 refine s_newL rfl rfl rfl rfl rfl ?_
 refine s_nil ?_
 have hlen : lenA h.get (.map mp) = some l.length := by
  show (match h.get mp with | some (.map es) => some es.length | _ => none) = _
  rw [N.hm]; simp [ents, numsOf]
 by_cases hin : num ∈ l
 ·have hlk : AV.tuple [((getN (numsOf l) num).map fun z : Nat => vint z).getD (vint (0 : Nat)), vbool (getN (numsOf l) num).isSome] = .tuple [vint (idx l num : Nat), vbool true] := by
   unfold numsOf
   rw [getN_nums hin]; rfl
  refine s_seq <| s_region ?_
  refine s_val rfl (o_load rfl rfl rfl N.gm rfl rfl) rfl rfl ?_
  refine s_val rfl rfl rfl rfl ?_
  refine s_val rfl (o_eq (o_lookupOk (z := vint (0 : Nat)) rfl rfl rfl rfl rfl rfl N.hm rfl) hlk) rfl rfl ?_
  iterate 5 refine s_val rfl rfl rfl rfl ?_
  refine s_nil <| s_seq <| s_seq <| s_region <| s_val rfl rfl rfl rfl <| s_val rfl rfl rfl rfl <| s_nil <| s_cond_f rfl <| s_skip <| s_seq <| s_region <| s_val rfl rfl rfl rfl <| s_val rfl rfl rfl rfl ?_
  refine s_setL rfl (o_storeL rfl rfl rfl rfl rfl rfl rfl rfl (Nat.le_refl 4)) rfl ?_
  refine s_nil <| s_ret ?_
  have ha : addV l num = l := by unfold addV; rw [if_pos hin]
  rw [ha]
  exact ⟨.inr rfl, _, rfl, rfl, N, But.refl⟩
 ·have hlk : AV.tuple [((getN (numsOf l) num).map fun z : Nat => vint z).getD (vint (0 : Nat)), vbool (getN (numsOf l) num).isSome] = .tuple [vint (0 : Nat), vbool false] := by
   unfold numsOf
   rw [getN_nums_none hin]; rfl
  refine s_seq <| s_region ?_
  refine s_val rfl (o_load rfl rfl rfl N.gm rfl rfl) rfl rfl ?_
  refine s_val rfl rfl rfl rfl ?_
  refine s_val rfl (o_eq (o_lookupOk (z := vint (0 : Nat)) rfl rfl rfl rfl rfl rfl N.hm rfl) hlk) rfl rfl ?_
  iterate 5 refine s_val rfl rfl rfl rfl ?_
  refine s_nil <| s_seq <| s_seq <| s_region <| s_val rfl rfl rfl rfl <| s_val rfl rfl rfl rfl <| s_nil <| s_cond_t rfl <| s_seq <| s_region ?_
  refine s_val rfl (o_load rfl rfl rfl N.gm rfl rfl) rfl rfl ?_
  refine s_val rfl (o_lenV rfl rfl (args1 rfl rfl) rfl rfl hlen) rfl rfl ?_
  refine s_val rfl rfl rfl rfl <| s_nil <| s_region ?_
  refine s_val rfl (o_load rfl rfl rfl N.gm rfl rfl) rfl rfl ?_
  refine s_val rfl rfl rfl rfl <| s_val rfl rfl rfl rfl ?_
  refine s_setH rfl (o_mapUp (f := fun z : Nat => vint z) (v := l.length) rfl rfl rfl rfl rfl rfl rfl N.hm rfl) rfl ?_
  refine s_nil <| s_seq <| s_region <| s_val rfl rfl rfl rfl <| s_val rfl rfl rfl rfl ?_
  refine s_setL rfl (o_storeL rfl rfl rfl rfl rfl rfl rfl rfl (Nat.le_refl 4)) rfl ?_
  refine s_nil <| s_ret ?_
  have ha : addV l num = l ++ [num] := by unfold addV; rw [if_neg hin]
  have hp : putN (numsOf l) num l.length = numsOf (l ++ [num]) := putN_nums (k := 0) hin
  rw [ha, idx_snoc hin]
  refine ⟨.inr rfl, _, rfl, rfl, ⟨(Hp.get_set_ne N.ne).trans N.gm, by rw [Hp.get_set_eq, hp], N.ne, N.l1, N.l2⟩, Nat.le_refl _, fun id _ h2 => Hp.get_set_ne h2⟩
theorem replaced_ret {mb mp : Nat} : ∀ (t : Ty), (∀ q ∈ t.pre, q.kind = 1 → 0 ≤ q.num) → t.size ≤ 2 ^ 20 → ∀ {l : List Nat} {h : Hp}, NM mb mp l h → l.length + t.size ≤ 2 ^ 29 →
  Ret ctx Or Xo 63 [t.agg, .clo 64 [] [.ptr mb 0 0]] h (fun v h' => v = (t.rename (idx (addVs l t.vars))).agg ∧ NM mb mp (addVs l t.vars) h' ∧ But mp h h') := by
 intro t
 induction t using Ty.ind with
 | h k n s b az ih =>
  intro hpos hsz l h N hll
  have hge := Ty.sizeL_ge az
  have hsz1 : 1 + Ty.sizeL az ≤ 2 ^ 20 := by simpa [Ty.size] using hsz
  have hll1 : l.length + (1 + Ty.sizeL az) ≤ 2 ^ 29 := by simpa [Ty.size] using hll
  by_cases hk : k = 1
  ·subst hk
   have hn : 0 ≤ n := hpos (.mk 1 n s b az) (by simp [Ty.pre]) rfl
   obtain ⟨v, rfl⟩ : ∃ v : Nat, n = v := ⟨n.toNat, by omega⟩
   refine body (env := [(0, (Ty.mk 1 v s b az).agg), (1, .clo 64 [] [.ptr mb 0 0])]) (rs := [.cell 4 40]) Tryz.func63 rfl rfl Tryz.ntmps63 rfl rfl ?_
   refine s_seq <| s_region ?_
   refine s_newL rfl (o_boxL rfl rfl rfl rfl rfl rfl (Ty.cells_isCell _) rfl) rfl rfl rfl ?_
   refine s_newL rfl rfl rfl rfl rfl ?_
   refine s_nil <| s_seq <| s_seq <| s_region ?_
   iterate 3 refine s_val rfl rfl rfl rfl ?_
   refine s_nil <| s_cond_t rfl <| s_seq <| s_region ?_
   iterate 3 refine s_val rfl rfl rfl rfl ?_
   refine s_ret1 (close1_ret N (by omega)) rfl rfl rfl rfl ?_
   rintro _ h1 ⟨rfl, N1, B1⟩
   refine s_setL rfl (o_storeL rfl rfl rfl rfl rfl rfl rfl rfl (Nat.le_refl 4)) rfl ?_
   refine s_nil <| s_ret ?_
   refine ⟨.inr rfl, _, rfl, ?_, ?_, B1⟩
   ·simp only [Ty.rename, Ty.vars, if_true, Int.toNat_natCast]
    rfl
   ·simp only [Ty.vars, if_true, Int.toNat_natCast]
    exact N1
  ·have hvars : Ty.vars (.mk k n s b az) = Ty.varsL az := by simp only [Ty.vars, if_neg hk]
   rw [hvars]
   generalize hLf : addVs l (Ty.varsL az) = Lf
   refine body (env := [(0, (Ty.mk k n s b az).agg), (1, .clo 64 [] [.ptr mb 0 0])]) (rs := [.cell 4 40]) Tryz.func63 rfl rfl Tryz.ntmps63 rfl rfl ?_
   refine s_seq <| s_region ?_
   refine s_newL rfl (o_boxL rfl rfl rfl rfl rfl rfl (Ty.cells_isCell _) rfl) rfl rfl rfl ?_
   refine s_newL rfl rfl rfl rfl rfl ?_
   refine s_nil <| s_seq <| s_seq <| s_region <| s_val rfl rfl rfl rfl <| s_val rfl rfl rfl rfl ?_
   refine s_val rfl (o_eq rfl (congrArg vbool (show (k == 1) = false from beq_false_of_ne hk))) rfl rfl ?_
   refine s_nil <| s_cond_f rfl <| s_skip <| s_seq <| s_region <| s_val rfl rfl rfl rfl <| s_nil <| s_seq <| s_seq <| s_region <| s_val rfl rfl rfl rfl <| s_val rfl rfl rfl rfl ?_
   refine s_val rfl (o_lenV rfl rfl (args1 rfl rfl) rfl rowD_kind rowD_len) rfl rfl ?_
   refine s_val rfl rfl rfl rfl <| s_nil <| s_block ?_
   refine s_rounds (ι := TLx) (fun i => ⟨[(1, .clo 64 [] [.ptr mb 0 0]), (2, .lptr 2 0), (4, .lptr 4 0), (5, i.v), (16, .d (rowD (b && az.isEmpty) az.length (Ty.cellsL az))), (17, vint az.length), (18, vint i.i)], [(2, (Ty.mk k n s b az).agg.cells), (4, [.d (.int .i64 0), .d (.int .i64 0), .d (.str []), .d .nilslice])], i.h⟩)
    (fun i => i.i ≤ az.length ∧ TL i.h i.v ((Ty.renameL (idx Lf) az).take i.i) ∧ NM mb mp (addVs l (Ty.varsL (az.take i.i))) i.h ∧ But mp h i.h ∧ ∀ id ∈ i.v.own, h.next ≤ id) (fun i => az.length - i.i) ?_ ⟨0, .d .nilslice, h⟩ ⟨Nat.zero_le _, ⟨.nil, rfl⟩, N, But.refl, fun id h1 => by simp [AV.own] at h1⟩ ⟨⟨rfl, rfl, rfl, rfl, rfl, rfl, rfl, trivial⟩, ⟨rfl, rfl, trivial⟩, rfl⟩
   rintro ⟨i, v, h1⟩ ⟨hi, hv, N1, B1, ho⟩
   simp only at hi hv N1 B1 ho
   have hcell := hv.row.cell
   refine s_seq <| s_region <| s_val rfl rfl rfl rfl <| s_nil <| s_seq ?_
   by_cases hil : i < az.length
   ·have hlt1 : decide ((i : Int) < (az.length : Nat)) = true := decide_eq_true (Int.ofNat_lt.2 hil)
    refine s_cond_t (congrArg (fun t => some (vbool t)) hlt1) ?_
    obtain ⟨q, hq1, hqL, hq2⟩ := rowD_read (H := h1.get) (b := b) hil
    have hmem := getD_mem' hil
    have htk : az.take (i + 1) = az.take i ++ [az.getD i default] := by
     rw [List.take_add_one]; simp [List.getD_eq_getElem?_getD, hil]
    have hfin : ∃ r, az = az.take (i + 1) ++ r := ⟨az.drop (i + 1), by rw [List.take_append_drop]⟩
    generalize hae : az.getD i default = a at hmem hq2 htk
    have hasz := Ty.size_mem hmem
    have hvl : (addVs l (Ty.varsL (az.take i))).length + a.size ≤ 2 ^ 29 := by
     have h5 := addVs_length (vs := Ty.varsL (az.take i)) (l := l)
     have h6 : (Ty.varsL (az.take i)).length ≤ Ty.sizeL (az.take i) := by
      have h7 := (Ty.mk 0 0 [] true (az.take i)).vars_length
      simp [Ty.vars, Ty.size] at h7
      have h8 : ∀ l : List Ty, (Ty.varsL l).length ≤ Ty.sizeL l := fun l => by
       induction l with
       | nil => exact Nat.le_refl _
       | cons a l ih9 => have := a.vars_length; simp only [Ty.varsL, Ty.sizeL, List.length_append]; omega
      exact h8 _
     obtain ⟨r, hr⟩ := hfin
     have h9 : Ty.sizeL az = Ty.sizeL (az.take i) + a.size + Ty.sizeL r := by
      rw [hr, htk, Ty.sizeL_append, Ty.sizeL_append]
      have : ((az.take i ++ [a] ++ r).take i) = az.take i := by
       rw [List.append_assoc, List.take_append_of_le_length (by rw [List.length_take]; omega), List.take_take, Nat.min_self]
      rw [this]
      simp [Ty.sizeL]
     omega
    refine s_skip <| s_seq <| s_block <| s_seq <| s_region ?_
    refine s_val rfl (o_indexV rfl rfl rfl hq1) rfl rfl ?_
    refine s_val rfl (o_loadV rfl rfl (hq2 _)) rfl rfl ?_
    refine s_newL rfl rfl rfl rfl (by repeat first | rfl | refine noL_cons (by first | rfl | exact hqL | exact hcell.2.1) ?_ | refine noL_l rfl ?_) ?_
    refine s_setL rfl (o_storeL rfl rfl rfl rfl (agg_len a) rfl (Ty.cells_isCell a) rfl (by rw [agg_len]; exact Nat.le_refl _)) rfl ?_
    refine s_nil <| s_region <| s_val rfl rfl rfl rfl ?_
    refine s_val rfl (o_loadL rfl rfl rfl rfl (by rw [agg_put a rfl]; exact agg_take a) (agg_zero a)) rfl rfl ?_
    refine s_val rfl rfl rfl rfl ?_
    refine s_ret1 (ih a hmem (fun q hq => hpos q (by simp only [Ty.pre, List.mem_cons]; exact .inr (mem_preL.2 ⟨a, hmem, hq⟩))) (by omega) N1 hvl) rfl rfl rfl rfl ?_
    rintro _ h2 ⟨rfl, N2, B2⟩
    have hadd : addVs (addVs l (Ty.varsL (az.take i))) a.vars = addVs l (Ty.varsL (az.take (i + 1))) := by
     rw [← addVs_append, htk, Ty.varsL_append]; simp [Ty.varsL]
    have hren : a.rename (idx (addVs (addVs l (Ty.varsL (az.take i))) a.vars)) = a.rename (idx Lf) := by
     refine Ty.rename_congr a fun w hw => ?_
     obtain ⟨r, hr⟩ := hfin
     have hLf2 : Lf = addVs (addVs l (Ty.varsL (az.take (i + 1)))) (Ty.varsL r) := by rw [← hLf, ← addVs_append, ← Ty.varsL_append, ← hr]
     have hm : w ∈ addVs l (Ty.varsL (az.take (i + 1))) := by
      rw [htk, Ty.varsL_append]
      exact mem_addVs.2 (.inr (List.mem_append.2 (.inr (by simpa [Ty.varsL] using hw))))
     rw [hadd, hLf2, idx_addVs hm]
    rw [hren]
    rw [hadd] at N2
    have hv2 : TL h2 v ((Ty.renameL (idx Lf) az).take i) := hv.keep B2.next fun id h3 => B2.keep id (hv.row.lt id h3) (by have := ho id h3; have := N.l2; omega)
    have hil3 : ((Ty.renameL (idx Lf) az).take i).length = i := by rw [List.length_take, Ty.renameL_eq, List.length_map]; omega
    refine s_val rfl (o_bs1 (cs := (Ty.rename (idx Lf) a).cells) rfl rfl rfl rfl rfl rfl rfl (Ty.cells_length _) (Ty.cells_isCell _) rfl (by decide) rfl) rfl rfl ?_
    refine s_append hv2.row rfl rfl rfl (args2 rfl hcell.2.1 rfl rfl) rfl rfl rfl rfl rfl rfl (by decide) rfl (new := (Ty.rename (idx Lf) a).cells.map .d) (by show _ = _; simp only [elemsOf]; rw [takeExact_all (by rw [Ty.cells_length])]) (Ty.cells_isCell _) (by decide) (by rw [List.length_map, Ty.cells_length]) (by decide) (by rw [hil3]; omega) rfl rfl ?_
    intro h3 v3 L3
    have hv3 := hv2.snoc L3
    have B3 : But mp h h3 := ⟨Nat.le_trans (B1.trans B2).next L3.next, fun id h4 h5 => by
     have h6 := (B1.trans B2).next
     rw [L3.keep id (by omega) (fun h7 => by have := ho id h7; omega)]; exact (B1.trans B2).keep id h4 h5⟩
    have N3 : NM mb mp (addVs l (Ty.varsL (az.take (i + 1)))) h3 := by
     have h6 := (B1.trans B2).next
     have m1 := N.l1
     have m2 := N.l2
     refine ⟨?_, ?_, N.ne, Nat.lt_of_lt_of_le N2.l1 L3.next, Nat.lt_of_lt_of_le N2.l2 L3.next⟩
     ·rw [L3.keep mb N2.l1 (fun h7 => by have := ho mb h7; omega)]; exact N2.gm
     ·rw [L3.keep mp N2.l2 (fun h7 => by have := ho mp h7; omega)]; exact N2.hm
    refine s_val rfl rfl rfl rfl <| s_nil <| s_region ?_
    refine s_val rfl (o_eq rfl (wrap_succ (n := i) (by omega))) rfl rfl ?_
    refine s_val rfl rfl rfl rfl <| s_nil ?_
    refine ⟨⟨i + 1, v3, h3⟩, ⟨hil, ?_, N3, B3, fun id h4 => ?_⟩, by simp only; omega, ⟨rfl, rfl, rfl, rfl, rfl, rfl, rfl, trivial⟩, ⟨rfl, rfl, trivial⟩, rfl⟩
    ·have : (Ty.renameL (idx Lf) az).take (i + 1) = (Ty.renameL (idx Lf) az).take i ++ [a.rename (idx Lf)] := by
      rw [Ty.renameL_eq, ← List.map_take, ← List.map_take, htk, List.map_append]; rfl
     rw [this]; exact hv3
    ·rcases L3.own id h4 with h5 | h5
     ·exact ho id h5
     ·have := (B1.trans B2).next; omega
   ·have hlt1 : decide ((i : Int) < (az.length : Nat)) = false := decide_eq_false (fun h => hil (Int.ofNat_lt.1 h))
    refine s_cond_f (congrArg (fun t => some (vbool t)) hlt1) ?_
    refine s_exit ?_
    refine s_seq ?_
    have hie : i = az.length := by omega
    have htk : (Ty.renameL (idx Lf) az).take i = Ty.renameL (idx Lf) az := List.take_of_length_le (by rw [Ty.renameL_eq, List.length_map]; omega)
    rw [htk] at hv
    obtain ⟨h9, hz, hn9, hk9⟩ := frz_rows hv.row
    rw [hv.nil] at hz
    have B9 : But mp h h9 := ⟨by rw [hn9]; exact B1.next, fun id h4 h5 => by rw [hk9 id (fun h6 => by have := ho id h6; omega)]; exact B1.keep id h4 h5⟩
    have N9 : NM mb mp Lf h9 := by
     have m1 := N.l1
     have m2 := N.l2
     rw [hie, List.take_length, hLf] at N1
     refine ⟨?_, ?_, N.ne, by rw [hn9]; exact N1.l1, by rw [hn9]; exact N1.l2⟩
     ·rw [hk9 mb (fun h7 => by have := ho mb h7; omega)]; exact N1.gm
     ·rw [hk9 mp (fun h7 => by have := ho mp h7; omega)]; exact N1.hm
    refine s_region ?_
    iterate 4 refine s_val rfl rfl rfl rfl ?_
    refine s_frz rfl rfl rfl rfl rfl hz ?_
    refine s_val (v := (Ty.mk k 0 s (Ty.renameL (idx Lf) az).isEmpty (Ty.renameL (idx Lf) az)).agg) rfl ?_ rfl rfl ?_
    ·show _ = some (Eff.val (.d (.agg [.int .i64 k, .int .i64 0, .str s, rowD ((Ty.renameL (idx Lf) az).isEmpty && (Ty.renameL (idx Lf) az).isEmpty) (Ty.renameL (idx Lf) az).length (Ty.cellsL (Ty.renameL (idx Lf) az))])))
     rw [Bool.and_self]
     have hy := rowD_cases (Ty.renameL (idx Lf) az).isEmpty (Ty.renameL (idx Lf) az).length (Ty.cellsL (Ty.renameL (idx Lf) az))
     generalize rowD (Ty.renameL (idx Lf) az).isEmpty (Ty.renameL (idx Lf) az).length (Ty.cellsL (Ty.renameL (idx Lf) az)) = x at hy ⊢
     rcases hy with rfl | rfl <;> rfl
    refine s_setL rfl (o_storeL rfl rfl rfl rfl rfl rfl (Ty.cells_isCell _) rfl (Nat.le_refl 4)) rfl ?_
    refine s_nil <| s_ret ?_
    refine ⟨.inr rfl, _, rfl, ?_, N9, B9⟩
    simp only [Ty.rename, if_neg hk, ← renameL_isEmpty (f := idx Lf) az]
    rfl
theorem right_pos {K : List UInt8 → Int} {t : Ty} (h : t.right K = true) : (∀ q ∈ t.pre, q.kind = 1 → 0 ≤ q.num) ∧ t.size ≤ 300 ∧ t.Fit K := by
 unfold Ty.right at h
 rw [Bool.and_eq_true, List.all_eq_true] at h
 refine ⟨fun q hq hk => ?_, of_decide_eq_true h.1, h.2⟩
 have := h.2 q hq
 cases q with
 | mk k n s b az =>
  have hc := fits_cases.1 this
  simp only [Ty.kind] at hk
  subst hk
  cases hc with
  | var h0 _ => exact h0
/-- What Close answers. -/
def closeA (K : List UInt8 → Int) (t : Ty) : AV := if t.right K then .tuple [t.close.agg, vint 0] else .tuple [ty0.agg, vint 120]
theorem close_ret {K : List UInt8 → Int} (hK : KindOk K) {t : Ty} (hs : t.Short) (hbig : t.size ≤ 2 ^ 40) {h : Hp} : Ret ctx Or Xo 25 [t.agg] h (fun v h' => v = closeA K t ∧ Ext h h') := by
 refine body (env := [(0, t.agg)]) (rs := [.cell 2 40, .tmp 3]) Tryz.func25 rfl rfl Tryz.ntmps25 rfl rfl ?_
 refine s_seq <| s_region ?_
 refine s_newL rfl (o_boxL rfl rfl rfl rfl (agg_len t) rfl (Ty.cells_isCell t) rfl) rfl rfl rfl ?_
 refine s_newL rfl rfl rfl rfl rfl ?_
 refine s_val rfl rfl rfl rfl <| s_nil <| s_seq <| s_seq <| s_region ?_
 refine s_val rfl (o_loadL rfl rfl rfl rfl (agg_take t) (agg_zero t)) rfl rfl ?_
 refine s_ret1 (right_ret hK hs hbig) rfl rfl rfl rfl ?_
 rintro _ h1 ⟨rfl, e1⟩
 refine s_val rfl rfl rfl rfl <| s_nil ?_
 by_cases hr : t.right K = true
 ·refine s_cond_f (congrArg (fun t => some (vbool (!t))) hr) ?_
  refine s_skip <| s_seq <| s_region ?_
  refine s_newMap rfl rfl rfl rfl ?_
  refine s_newVar rfl rfl rfl rfl ?_
  refine s_setH rfl (o_store1 rfl rfl rfl rfl rfl rfl rfl rfl (if_pos rfl) (Nat.le_of_ble_eq_true rfl)) rfl ?_
  refine s_nil <| s_seq ?_
  obtain ⟨hp1, hp2, _⟩ := right_pos hr
  have e2 : Ext h1 (((h1.alloc (.map [])).newV [.d .nilmap] 111).set (h1.next + 1) (.cells [.map h1.next] 0)) := ((Ext.alloc ..).trans (Ext.newV ..)).set (Nat.le_succ _)
  have N2 : NM (h1.next + 1) h1.next [] (((h1.alloc (.map [])).newV [.d .nilmap] 111).set (h1.next + 1) (.cells [.map h1.next] 0)) := by
   refine ⟨Hp.get_set_eq, ?_, by omega, ?_, ?_⟩
   ·rw [Hp.get_set_ne (by omega), Hp.get_newV, if_neg (by show h1.next ≠ h1.next + 1; omega), Hp.get_alloc, if_pos rfl]; rfl
   ·show h1.next + 1 < h1.next + 2; omega
   ·show h1.next < h1.next + 2; omega
  refine s_region ?_
  refine s_val rfl (o_loadL rfl rfl rfl rfl (agg_take t) (agg_zero t)) rfl rfl ?_
  refine s_val rfl rfl rfl rfl ?_
  refine s_ret1 (replaced_ret t hp1 (by omega) N2 (by simp; omega)) rfl rfl rfl rfl ?_
  rintro _ h3 ⟨rfl, _, B3⟩
  have e3 : Ext h h3 := ⟨Nat.le_trans (e1.trans e2).next B3.next, fun id h4 => by
   have h5 := e1.next
   have h6 := e2.next
   rw [B3.keep id (by show id < h1.next + 2; omega) (by omega)]; exact (e1.trans e2).keep id h4⟩
  refine s_setL rfl (o_storeL rfl rfl rfl rfl (agg_len _) rfl (Ty.cells_isCell _) rfl (by rw [agg_len]; exact Nat.le_refl _)) rfl ?_
  refine s_val rfl rfl rfl rfl <| s_nil <| s_ret ?_
  refine ⟨.inr rfl, _, allSome2 (r_cellL rfl rfl rfl (by rw [agg_put _ rfl]; exact agg_take _) (agg_zero _)) (r_tmp rfl rfl), ?_, e3⟩
  ·unfold closeA; rw [if_pos hr]; rfl
 ·have hr' : t.right K = false := by simpa using hr
  refine s_cond_t (congrArg (fun t => some (vbool (!t))) hr') ?_
  refine s_seq <| s_region <| s_val rfl rfl rfl rfl ?_
  refine s_setL rfl (o_storeL rfl rfl rfl rfl rfl rfl rfl rfl (Nat.le_refl 4)) rfl ?_
  refine s_val rfl rfl rfl rfl <| s_nil <| s_ret ?_
  refine ⟨.inr rfl, _, rfl, ?_, e1⟩
  unfold closeA; rw [if_neg hr]; rfl
end Go.Dv.Us
/- rising, Closed. -/
namespace Go.Dv.Us
open Go.Dv.K Go.Proofs
theorem idx_new {l m : List Nat} {v : Nat} (h : v ∉ l) : idx ((l ++ [v]) ++ m) v = l.length := by
 rw [idx_append (by simp), idx_snoc h]
theorem idx_old {l m : List Nat} {v : Nat} (h : v ∈ l) : idx (l ++ m) v < l.length := by
 rw [idx_append h]; exact idx_lt h
/-- A type whose variables are numbered in order rises. -/
theorem rising_ret {nb : Nat} : ∀ (t : Ty), (t.size ≤ 2 ^ 20) → ∀ {l Lf : List Nat}, (∃ m, Lf = addVs l t.vars ++ m) → ∀ {h : Hp}, h.get nb = some (.cells [vint l.length] 0) → l.length + t.size ≤ 2 ^ 29 → nb < h.next →
  Ret ctx Or Xo 86 [(t.rename (idx Lf)).agg, .ptr nb 0 0] h (fun v h' => v = vbool true ∧ h'.get nb = some (.cells [vint (addVs l t.vars).length] 0) ∧ But nb h h') := by
 intro t
 induction t using Ty.ind with
 | h k n s b az ih =>
  intro hsz l Lf hLf h hg hll hnb
  have hge := Ty.sizeL_ge az
  have hsz1 : 1 + Ty.sizeL az ≤ 2 ^ 20 := by simpa [Ty.size] using hsz
  have hll1 : l.length + (1 + Ty.sizeL az) ≤ 2 ^ 29 := by simpa [Ty.size] using hll
  by_cases hk : k = 1
  ·subst hk
   generalize hv : n.toNat = v
   have hvars : Ty.vars (.mk 1 n s b az) = [v] := by simp [Ty.vars, hv]
   have hren : Ty.rename (idx Lf) (.mk 1 n s b az) = varTy (idx Lf v) := by simp [Ty.rename, hv, varTy]
   have hadd1 : addVs l [v] = addV l v := rfl
   rw [hvars] at hLf ⊢
   rw [hadd1] at hLf ⊢
   rw [hren]
   obtain ⟨m, hLf⟩ := hLf
   by_cases hin : v ∈ l
   ·have ha : addV l v = l := by unfold addV; rw [if_pos hin]
    have hlt : idx Lf v < l.length := by rw [hLf, ha]; exact idx_old hin
    generalize idx Lf v = x at hlt ⊢
    rw [ha]
    refine body (env := [(0, (varTy x).agg), (1, .ptr nb 0 0)]) (rs := [.tmp 4]) Tryz.func86 rfl rfl Tryz.ntmps86 rfl rfl ?_
    refine s_seq <| s_region ?_
    refine s_newL rfl (o_boxL rfl rfl rfl rfl rfl rfl (Ty.cells_isCell _) rfl) rfl rfl rfl ?_
    refine s_val rfl rfl rfl rfl <| s_nil <| s_seq <| s_seq <| s_region ?_
    iterate 3 refine s_val rfl rfl rfl rfl ?_
    refine s_nil <| s_cond_t rfl <| s_seq <| s_seq ?_
    refine s_drawn { ord := [0, 1, 2, 3, 4, 5], cl := [0, 1, 0, 4, 12, 31] } (by kernel_rfl) ?_
    iterate 4 refine d_val rfl rfl rfl rfl rfl ?_
    refine d_val rfl rfl (o_load rfl rfl rfl hg rfl rfl) rfl rfl ?_
    refine d_val rfl rfl (o_eq rfl (congrArg vbool (show ((x : Int) == (l.length : Nat)) = false from beq_false_of_ne (by omega)))) rfl rfl ?_
    refine d_nil ⟨trivial, trivial, ?_⟩
    refine s_cond_f rfl <| s_skip <| s_seq ?_
    refine s_drawn { ord := [0, 1, 2, 3, 4, 5, 6], cl := [0, 1, 0, 4, 12, 31, 63] } (by kernel_rfl) ?_
    iterate 4 refine d_val rfl rfl rfl rfl rfl ?_
    refine d_val rfl rfl (o_load rfl rfl rfl hg rfl rfl) rfl rfl ?_
    refine d_val rfl rfl (o_eq rfl (congrArg vbool (decide_eq_true (show (x : Int) < (l.length : Nat) by omega)))) rfl rfl ?_
    refine d_val rfl rfl rfl rfl rfl ?_
    refine d_nil ⟨trivial, trivial, ?_⟩
    refine s_ret ?_
    exact ⟨.inr rfl, _, rfl, rfl, hg, But.refl⟩
   ·have ha : addV l v = l ++ [v] := by unfold addV; rw [if_neg hin]
    have hlt : idx Lf v = l.length := by rw [hLf, ha]; exact idx_new hin
    rw [hlt, ha]
    refine body (env := [(0, (varTy l.length).agg), (1, .ptr nb 0 0)]) (rs := [.tmp 4]) Tryz.func86 rfl rfl Tryz.ntmps86 rfl rfl ?_
    refine s_seq <| s_region ?_
    refine s_newL rfl (o_boxL rfl rfl rfl rfl rfl rfl (Ty.cells_isCell _) rfl) rfl rfl rfl ?_
    refine s_val rfl rfl rfl rfl <| s_nil <| s_seq <| s_seq <| s_region ?_
    iterate 3 refine s_val rfl rfl rfl rfl ?_
    refine s_nil <| s_cond_t rfl <| s_seq <| s_seq ?_
    refine s_drawn { ord := [0, 1, 2, 3, 4, 5], cl := [0, 1, 0, 4, 12, 31] } (by kernel_rfl) ?_
    iterate 4 refine d_val rfl rfl rfl rfl rfl ?_
    refine d_val rfl rfl (o_load rfl rfl rfl hg rfl rfl) rfl rfl ?_
    refine d_val rfl rfl (o_eq rfl (congrArg vbool (show (((l.length : Nat) : Int) == (l.length : Nat)) = true by simp))) rfl rfl ?_
    refine d_nil ⟨trivial, trivial, ?_⟩
    refine s_cond_t rfl <| s_region <| s_val rfl rfl rfl rfl <| s_val rfl rfl rfl rfl ?_
    refine s_val rfl (o_load rfl rfl rfl hg rfl rfl) rfl rfl ?_
    refine s_val rfl (o_eq rfl (wrap_succ (n := l.length) (by omega))) rfl rfl ?_
    refine s_val rfl rfl rfl rfl ?_
    refine s_setH rfl (o_store1 rfl rfl rfl rfl rfl rfl rfl rfl hg (Nat.le_of_ble_eq_true rfl)) rfl ?_
    refine s_nil <| s_seq ?_
    refine s_drawn { ord := [0, 1, 2, 3, 4, 5, 6], cl := [0, 1, 0, 4, 12, 31, 63] } (by kernel_rfl) ?_
    iterate 4 refine d_val rfl rfl rfl rfl rfl ?_
    refine d_val rfl rfl (o_load rfl rfl rfl Hp.get_set_eq rfl rfl) rfl rfl ?_
    refine d_val rfl rfl (o_eq rfl (congrArg vbool (decide_eq_true (show ((l.length : Nat) : Int) < ((l.length + 1 : Nat) : Int) by omega)))) rfl rfl ?_
    refine d_val rfl rfl rfl rfl rfl ?_
    refine d_nil ⟨trivial, trivial, ?_⟩
    refine s_ret ?_
    refine ⟨.inr rfl, _, rfl, rfl, ?_, Nat.le_refl _, fun id _ h2 => Hp.get_set_ne h2⟩
    rw [Hp.get_set_eq, List.length_append]; rfl
  ·have hvars : Ty.vars (.mk k n s b az) = Ty.varsL az := by simp only [Ty.vars, if_neg hk]
   have hren : Ty.rename (idx Lf) (.mk k n s b az) = .mk k 0 s (Ty.renameL (idx Lf) az).isEmpty (Ty.renameL (idx Lf) az) := by simp only [Ty.rename, if_neg hk, renameL_isEmpty]
   rw [hvars] at hLf ⊢
   rw [hren]
   have hrl : (Ty.renameL (idx Lf) az).length = az.length := by rw [Ty.renameL_eq, List.length_map]
   generalize hzs : Ty.renameL (idx Lf) az = zs at hrl ⊢
   generalize hbz : zs.isEmpty = bz
   refine body (env := [(0, (Ty.mk k 0 s bz zs).agg), (1, .ptr nb 0 0)]) (rs := [.tmp 4]) Tryz.func86 rfl rfl Tryz.ntmps86 rfl rfl ?_
   refine s_seq <| s_region ?_
   refine s_newL rfl (o_boxL rfl rfl rfl rfl rfl rfl (Ty.cells_isCell _) rfl) rfl rfl rfl ?_
   refine s_val rfl rfl rfl rfl <| s_nil <| s_seq <| s_seq <| s_region <| s_val rfl rfl rfl rfl <| s_val rfl rfl rfl rfl ?_
   refine s_val rfl (o_eq rfl (congrArg vbool (show (k == 1) = false from beq_false_of_ne hk))) rfl rfl ?_
   refine s_nil <| s_cond_f rfl <| s_skip <| s_seq <| s_seq <| s_region <| s_val rfl rfl rfl rfl <| s_val rfl rfl rfl rfl ?_
   refine s_val rfl (o_lenV rfl rfl (args1 rfl rfl) rfl rowD_kind rowD_len) rfl rfl ?_
   refine s_val rfl rfl rfl rfl <| s_nil <| s_block ?_
   refine s_rounds (ι := WKx) (fun i => ⟨[(1, .ptr nb 0 0), (28, .d (rowD (bz && zs.isEmpty) zs.length (Ty.cellsL zs))), (29, vint zs.length), (30, vint i.i)], [], i.h⟩)
    (fun i => i.i ≤ zs.length ∧ i.h.get nb = some (.cells [vint (addVs l (Ty.varsL (az.take i.i))).length] 0) ∧ But nb h i.h) (fun i => zs.length - i.i) ?_ ⟨0, h⟩ ⟨Nat.zero_le _, hg, But.refl⟩ ⟨⟨rfl, rfl, rfl, rfl, trivial⟩, trivial, rfl⟩
   rintro ⟨i, h1⟩ ⟨hi, hg1, B1⟩
   simp only at hi hg1 B1
   refine s_seq <| s_region <| s_val rfl rfl rfl rfl <| s_nil <| s_seq ?_
   by_cases hil : i < zs.length
   ·have hlt1 : decide ((i : Int) < (zs.length : Nat)) = true := decide_eq_true (Int.ofNat_lt.2 hil)
    refine s_cond_t (congrArg (fun t => some (vbool t)) hlt1) ?_
    obtain ⟨q, hq1, hqL, hq2⟩ := rowD_read (H := h1.get) (b := bz) hil
    have hil2 : i < az.length := by omega
    have hmem := getD_mem' hil2
    have hza : zs.getD i default = (az.getD i default).rename (idx Lf) := by
     rw [← hzs, Ty.renameL_eq]; simp [List.getD_eq_getElem?_getD, hil2]
    rw [hza] at hq2
    have htk : az.take (i + 1) = az.take i ++ [az.getD i default] := by
     rw [List.take_add_one]; simp [List.getD_eq_getElem?_getD, hil2]
    have hfin : ∃ r, az = az.take (i + 1) ++ r := ⟨az.drop (i + 1), by rw [List.take_append_drop]⟩
    generalize hae : az.getD i default = a at hmem hq2 htk
    have hasz := Ty.size_mem hmem
    have h8 : ∀ l : List Ty, (Ty.varsL l).length ≤ Ty.sizeL l := fun l => by
     induction l with
     | nil => exact Nat.le_refl _
     | cons a l ih9 => have := a.vars_length; simp only [Ty.varsL, Ty.sizeL, List.length_append]; omega
    obtain ⟨r, hr⟩ := hfin
    have hvl : (addVs l (Ty.varsL (az.take i))).length + a.size ≤ 2 ^ 29 := by
     have h5 := addVs_length (vs := Ty.varsL (az.take i)) (l := l)
     have h6 := h8 (az.take i)
     have h9 : Ty.sizeL az = Ty.sizeL (az.take i) + a.size + Ty.sizeL r := by
      have h10 : Ty.sizeL az = Ty.sizeL (az.take (i + 1)) + Ty.sizeL r := by rw [← Ty.sizeL_append, ← hr]
      rw [h10, htk, Ty.sizeL_append]
      simp [Ty.sizeL]
     omega
    have hadd : addVs (addVs l (Ty.varsL (az.take i))) a.vars = addVs l (Ty.varsL (az.take (i + 1))) := by
     rw [← addVs_append, htk, Ty.varsL_append]; simp [Ty.varsL]
    have hLf2 : ∃ m, Lf = addVs (addVs l (Ty.varsL (az.take i))) a.vars ++ m := by
     obtain ⟨m, hm⟩ := hLf
     obtain ⟨m', hm'⟩ := addVs_pre (Ty.varsL r) (addVs l (Ty.varsL (az.take (i + 1))))
     refine ⟨m' ++ m, ?_⟩
     have h10 : addVs l (Ty.varsL az) = addVs (addVs l (Ty.varsL (az.take (i + 1)))) (Ty.varsL r) := by rw [← addVs_append, ← Ty.varsL_append, ← hr]
     rw [hadd, hm, h10, hm', List.append_assoc]
    refine s_skip <| s_seq <| s_block <| s_seq <| s_region ?_
    refine s_val rfl (o_indexV rfl rfl rfl hq1) rfl rfl ?_
    refine s_val rfl (o_loadV rfl rfl (hq2 _)) rfl rfl ?_
    refine s_newL rfl rfl rfl rfl (by repeat first | rfl | refine noL_cons (by first | rfl | exact hqL) ?_) ?_
    refine s_setL rfl (o_storeL rfl rfl rfl rfl (agg_len _) rfl (Ty.cells_isCell _) rfl (by rw [agg_len]; exact Nat.le_refl _)) rfl ?_
    refine s_nil <| s_seq <| s_region ?_
    refine s_val rfl (o_loadL rfl rfl rfl rfl (by rw [agg_put _ rfl]; exact agg_take _) (agg_zero _)) rfl rfl ?_
    refine s_val rfl rfl rfl rfl ?_
    refine s_ret1 (ih a hmem (by omega) hLf2 hg1 hvl (Nat.lt_of_lt_of_le hnb B1.next)) rfl rfl rfl rfl ?_
    rintro _ h2 ⟨rfl, hg2, B2⟩
    rw [hadd] at hg2
    refine s_val rfl rfl rfl rfl <| s_nil <| s_cond_f rfl <| s_skip <| s_region ?_
    refine s_val rfl (o_eq rfl (wrap_succ (n := i) (by omega))) rfl rfl ?_
    refine s_val rfl rfl rfl rfl <| s_nil ?_
    exact ⟨⟨i + 1, h2⟩, ⟨hil, hg2, B1.trans B2⟩, by simp only; omega, ⟨rfl, rfl, rfl, rfl, trivial⟩, trivial, rfl⟩
   ·have hlt1 : decide ((i : Int) < (zs.length : Nat)) = false := decide_eq_false (fun h => hil (Int.ofNat_lt.1 h))
    refine s_cond_f (congrArg (fun t => some (vbool t)) hlt1) ?_
    refine s_exit ?_
    refine s_seq <| s_region <| s_val rfl rfl rfl rfl <| s_nil <| s_ret ?_
    have hie : i = az.length := by omega
    rw [hie, List.take_length] at hg1
    exact ⟨.inr rfl, _, rfl, rfl, hg1, B1⟩
theorem Ty.rename_short {t : Ty} {f : Nat → Nat} (h : t.Short) : (t.rename f).Short := by
 induction t using Ty.ind with
 | h k n s b az ih =>
  intro q hq
  by_cases hk : k = 1
  ·simp only [Ty.rename, if_pos hk, Ty.pre, Ty.preL, List.mem_cons, List.not_mem_nil, or_false] at hq
   subst hq
   exact Nat.zero_le _
  ·simp only [Ty.rename, if_neg hk, Ty.pre, List.mem_cons] at hq
   rcases hq with h1 | h1
   ·subst h1; exact h (.mk k n s b az) (by simp [Ty.pre])
   ·rw [mem_preL, Ty.renameL_eq] at h1
    obtain ⟨a, ha, hqa⟩ := h1
    obtain ⟨c, hc, rfl⟩ := List.mem_map.1 ha
    exact ih c hc (fun q' hq' => h q' (by simp only [Ty.pre, List.mem_cons]; exact .inr (mem_preL.2 ⟨c, hc, hq'⟩))) q hqa
/-- Closed of a right type whose variables are numbered in order. -/
theorem closed_ret {K : List UInt8 → Int} (hK : KindOk K) {t : Ty} (hs : t.close.Short) (hr : t.close.right K = true) (hsz : t.size ≤ 300) {h : Hp} : Ret ctx Or Xo 46 [t.close.agg] h (fun v h' => v = vbool true ∧ Ext h h') := by
 have hsz2 := (right_pos hr).2.1
 refine body (env := [(0, t.close.agg)]) (rs := [.tmp 2]) Tryz.func46 rfl rfl Tryz.ntmps46 rfl rfl ?_
 refine s_seq <| s_region ?_
 refine s_newL rfl (o_boxL rfl rfl rfl rfl (agg_len _) rfl (Ty.cells_isCell _) rfl) rfl rfl rfl ?_
 refine s_val rfl rfl rfl rfl <| s_nil <| s_seq <| s_seq <| s_region ?_
 refine s_val rfl (o_loadL rfl rfl rfl rfl (agg_take _) (agg_zero _)) rfl rfl ?_
 refine s_ret1 (right_ret hK hs (by omega)) rfl rfl rfl rfl ?_
 rintro _ h1 ⟨rfl, e1⟩
 rw [hr]
 refine s_val rfl rfl rfl rfl <| s_nil <| s_cond_f rfl <| s_skip <| s_seq <| s_region ?_
 refine s_newVar rfl rfl rfl rfl ?_
 refine s_setH rfl (o_store1 rfl rfl rfl rfl rfl rfl rfl rfl (if_pos rfl) (Nat.le_of_ble_eq_true rfl)) rfl ?_
 refine s_nil <| s_seq <| s_region ?_
 refine s_val rfl (o_loadL rfl rfl rfl rfl (agg_take _) (agg_zero _)) rfl rfl ?_
 refine s_ret1 (rising_ret (nb := h1.next) t (by omega) (l := []) (Lf := addVs [] t.vars) ⟨[], by simp⟩ Hp.get_set_eq (by simp; omega) (Nat.lt_succ_self _)) rfl rfl rfl rfl ?_
 rintro _ h3 ⟨rfl, _, B3⟩
 refine s_val rfl rfl rfl rfl <| s_nil <| s_ret ?_
 refine ⟨.inr rfl, _, rfl, rfl, ⟨?_, fun id h4 => ?_⟩⟩
 ·exact Nat.le_trans (Nat.le_trans e1.next (Nat.le_succ _)) B3.next
 ·have := e1.next
  rw [B3.keep id (by show id < h1.next + 1; omega) (by omega), Hp.get_set_ne (by omega), Hp.get_newV, if_neg (by omega)]
  exact e1.keep id h4
end Go.Dv.Us
/- lex.Kind: it answers. -/
namespace Go.Dv.Us
open Go.Dv.K Go.Proofs
def vbyte (c : UInt8) : AV := .d (.int .u8 c.toNat)
/-- It answers yes or no. -/
def Says (f : FuncId) (args : List AV) : Prop := ∀ h, Ret ctx Or Xo f args h (fun v h' => ∃ b : Bool, v = vbool b ∧ h' = h)
theorem small_ret (c : UInt8) : Says 150 [vbyte c] := by
 intro h
 refine body (env := [(0, vbyte c)]) (rs := [.tmp 2]) Tryz.func150 rfl rfl Tryz.ntmps150 rfl rfl ?_
 refine s_seq <| s_region <| s_val rfl rfl rfl rfl <| s_nil <| s_seq <| s_region ?_
 iterate 3 refine s_val rfl rfl rfl rfl ?_
 generalize decide (((c.toNat : Nat) : Int) ≥ 97) = b0
 cases b0
 ·skip
  refine s_no rfl rfl rfl <| s_no rfl rfl rfl <| s_val rfl rfl rfl rfl <| s_val rfl rfl rfl rfl <| s_nil <| s_ret ?_
  exact ⟨.inr rfl, _, rfl, _, rfl, rfl⟩
 ·skip
  iterate 4 refine s_val rfl rfl rfl rfl ?_
  refine s_nil <| s_ret ?_
  exact ⟨.inr rfl, _, rfl, _, rfl, rfl⟩
theorem great_ret (c : UInt8) : Says 153 [vbyte c] := by
 intro h
 refine body (env := [(0, vbyte c)]) (rs := [.tmp 2]) Tryz.func153 rfl rfl Tryz.ntmps153 rfl rfl ?_
 refine s_seq <| s_region <| s_val rfl rfl rfl rfl <| s_nil <| s_seq <| s_region ?_
 iterate 3 refine s_val rfl rfl rfl rfl ?_
 generalize decide (((c.toNat : Nat) : Int) ≥ 65) = b0
 cases b0
 ·skip
  refine s_no rfl rfl rfl <| s_no rfl rfl rfl <| s_val rfl rfl rfl rfl <| s_val rfl rfl rfl rfl <| s_nil <| s_ret ?_
  exact ⟨.inr rfl, _, rfl, _, rfl, rfl⟩
 ·skip
  iterate 4 refine s_val rfl rfl rfl rfl ?_
  refine s_nil <| s_ret ?_
  exact ⟨.inr rfl, _, rfl, _, rfl, rfl⟩
theorem digit_ret (c : UInt8) : Says 154 [vbyte c] := by
 intro h
 refine body (env := [(0, vbyte c)]) (rs := [.tmp 2]) Tryz.func154 rfl rfl Tryz.ntmps154 rfl rfl ?_
 refine s_seq <| s_region <| s_val rfl rfl rfl rfl <| s_nil <| s_seq <| s_region ?_
 iterate 3 refine s_val rfl rfl rfl rfl ?_
 generalize decide (((c.toNat : Nat) : Int) ≥ 48) = b0
 cases b0
 ·skip
  refine s_no rfl rfl rfl <| s_no rfl rfl rfl <| s_val rfl rfl rfl rfl <| s_val rfl rfl rfl rfl <| s_nil <| s_ret ?_
  exact ⟨.inr rfl, _, rfl, _, rfl, rfl⟩
 ·skip
  iterate 4 refine s_val rfl rfl rfl rfl ?_
  refine s_nil <| s_ret ?_
  exact ⟨.inr rfl, _, rfl, _, rfl, rfl⟩
theorem index_str {s : List UInt8} {i : Nat} (hi : i < s.length) : indexA ctx 9 (.d (.str s)) (vint i) = some (vbyte (s[i])) := by
 have ht : ctx.T 9 = some ti9 := rfl
 simp only [indexA, intOf?, vint, ht, ti9]
 rw [if_pos (Int.natCast_nonneg _), Int.toNat_natCast, List.getElem?_eq_getElem hi]
 rfl
theorem o_indexS {C : Ctx} {A : FAnn} {ρ : Operand → Option AV} {L : Loc} {H : Nat → Option Obj} {o : Oper} {t : TypeId} {x i : Operand} {a b v : AV} (hop : o.op = .index t x i) (hx : ρ x = some a) (hi : ρ i = some b) (hv : indexA C t a b = some v) : opA C A ρ L H o = some (.val v) := by
 unfold opA
 simp only [hop, hx, hi, hv, Option.map_some]
theorem run_ret {s : List UInt8} {n : Nat} {b : Bool} (hn : n ≤ s.length) (hs : s.length ≤ 2 ^ 30) {h : Hp} :
  Ret ctx Or Xo 151 [.d (.str s), vint n, vbool b] h (fun v h' => (∃ m : Nat, v = vint m ∧ n + m ≤ s.length) ∧ h' = h) := by
 refine body (env := [(0, .d (.str s)), (1, vint n), (2, vbool b)]) (rs := [.tmp 6]) Tryz.func151 rfl rfl Tryz.ntmps151 rfl rfl ?_
 refine s_seq <| s_region <| s_val rfl rfl rfl rfl <| s_nil <| s_seq <| s_region <| s_val rfl rfl rfl rfl <| s_val rfl rfl rfl rfl <| s_nil <| s_seq <| s_block ?_
 refine s_rounds (ι := Nat) (fun i => ⟨[(0, .d (.str s)), (1, vint n), (2, vbool b), (7, vint i)], [], h⟩) (fun i => n ≤ i ∧ i ≤ s.length) (fun i => s.length - i) ?_ n ⟨Nat.le_refl _, hn⟩ ⟨⟨rfl, rfl, rfl, rfl, trivial⟩, trivial, rfl⟩
 rintro i ⟨hi0, hi⟩
 refine s_seq <| s_seq <| s_region ?_
 iterate 4 refine s_val rfl rfl rfl rfl ?_
 refine s_nil ?_
 by_cases hil : i < s.length
 ·have hlt1 : decide ((i : Int) < (s.length : Nat)) = true := decide_eq_true (Int.ofNat_lt.2 hil)
  refine s_cond_t (congrArg (fun t => some (vbool t)) hlt1) ?_
  refine s_skip <| s_block <| s_seq <| s_region <| s_val rfl rfl rfl rfl <| s_val rfl rfl rfl rfl ?_
  refine s_val rfl (o_indexS rfl rfl rfl (index_str hil)) rfl rfl ?_
  refine s_val rfl rfl rfl rfl <| s_nil ?_
  refine s_mid (ι := Bool) (fun x => ⟨[(0, .d (.str s)), (1, vint n), (2, vbool b), (7, vint i), (41, vbool x)], [], h⟩) (fun _ => True) ?_ ?_
  ·skip
   refine s_seq <| s_region <| s_val rfl rfl rfl rfl ?_
   refine s_ret1 (small_ret s[i] h) rfl rfl rfl rfl ?_
   rintro _ _ ⟨b1, rfl, rfl⟩
   cases b1
   ·skip
    iterate 3 refine s_val rfl rfl rfl rfl ?_
    refine s_ret1 (great_ret s[i] _) rfl rfl rfl rfl ?_
    rintro _ _ ⟨b2, rfl, rfl⟩
    cases b2
    ·skip
     iterate 4 refine s_val rfl rfl rfl rfl ?_
     refine s_ret1 (digit_ret s[i] _) rfl rfl rfl rfl ?_
     rintro _ _ ⟨b3, rfl, rfl⟩
     cases b3
     ·skip
      iterate 5 refine s_val rfl rfl rfl rfl ?_
      generalize ((((s[i]).toNat : Nat) : Int) != 95) = b4
      cases b4
      ·skip
       refine s_val rfl rfl rfl rfl <| s_val rfl rfl rfl rfl ?_
       iterate 6 refine s_no rfl rfl rfl ?_
       refine s_val rfl rfl rfl rfl <| s_nil ?_
       refine s_if rfl (fun ht => ?_) (fun ht => ?_)
       ·skip
        refine s_exit ?_
        refine s_seq <| s_region <| s_val rfl rfl rfl rfl <| s_val rfl rfl rfl rfl ?_
        refine s_val rfl (o_eq rfl (show vint (IntKind.i64.wrap ((i : Int) - (n : Nat))) = vint ((i - n : Nat) : Int) by rw [wrap_id (by omega) (by omega)]; congr 1; omega)) rfl rfl ?_
        refine s_val rfl rfl rfl rfl <| s_nil <| s_ret ?_
        exact ⟨.inr rfl, _, rfl, ⟨i - n, rfl, by omega⟩, rfl⟩
       refine s_skip ?_
       exact ⟨_, trivial, ⟨rfl, rfl, rfl, rfl, rfl, trivial⟩, trivial, rfl⟩
      ·skip
       iterate 4 refine s_val rfl rfl rfl rfl ?_
       cases b
       ·skip
        refine s_no rfl rfl rfl <| s_no rfl rfl rfl ?_
        iterate 3 refine s_val rfl rfl rfl rfl ?_
        refine s_nil ?_
        refine s_if rfl (fun ht => ?_) (fun ht => ?_)
        ·skip
         refine s_exit ?_
         refine s_seq <| s_region <| s_val rfl rfl rfl rfl <| s_val rfl rfl rfl rfl ?_
         refine s_val rfl (o_eq rfl (show vint (IntKind.i64.wrap ((i : Int) - (n : Nat))) = vint ((i - n : Nat) : Int) by rw [wrap_id (by omega) (by omega)]; congr 1; omega)) rfl rfl ?_
         refine s_val rfl rfl rfl rfl <| s_nil <| s_ret ?_
         exact ⟨.inr rfl, _, rfl, ⟨i - n, rfl, by omega⟩, rfl⟩
        refine s_skip ?_
        exact ⟨_, trivial, ⟨rfl, rfl, rfl, rfl, rfl, trivial⟩, trivial, rfl⟩
       ·skip
        iterate 5 refine s_val rfl rfl rfl rfl ?_
        refine s_nil ?_
        refine s_if rfl (fun ht => ?_) (fun ht => ?_)
        ·skip
         refine s_exit ?_
         refine s_seq <| s_region <| s_val rfl rfl rfl rfl <| s_val rfl rfl rfl rfl ?_
         refine s_val rfl (o_eq rfl (show vint (IntKind.i64.wrap ((i : Int) - (n : Nat))) = vint ((i - n : Nat) : Int) by rw [wrap_id (by omega) (by omega)]; congr 1; omega)) rfl rfl ?_
         refine s_val rfl rfl rfl rfl <| s_nil <| s_ret ?_
         exact ⟨.inr rfl, _, rfl, ⟨i - n, rfl, by omega⟩, rfl⟩
        refine s_skip ?_
        exact ⟨_, trivial, ⟨rfl, rfl, rfl, rfl, rfl, trivial⟩, trivial, rfl⟩
     ·skip
      iterate 3 refine s_val rfl rfl rfl rfl ?_
      refine s_no rfl rfl rfl <| s_no rfl rfl rfl <| s_val rfl rfl rfl rfl <| s_val rfl rfl rfl rfl ?_
      iterate 6 refine s_no rfl rfl rfl ?_
      refine s_val rfl rfl rfl rfl <| s_nil ?_
      refine s_if rfl (fun ht => ?_) (fun ht => ?_)
      ·skip
       refine s_exit ?_
       refine s_seq <| s_region <| s_val rfl rfl rfl rfl <| s_val rfl rfl rfl rfl ?_
       refine s_val rfl (o_eq rfl (show vint (IntKind.i64.wrap ((i : Int) - (n : Nat))) = vint ((i - n : Nat) : Int) by rw [wrap_id (by omega) (by omega)]; congr 1; omega)) rfl rfl ?_
       refine s_val rfl rfl rfl rfl <| s_nil <| s_ret ?_
       exact ⟨.inr rfl, _, rfl, ⟨i - n, rfl, by omega⟩, rfl⟩
      refine s_skip ?_
      exact ⟨_, trivial, ⟨rfl, rfl, rfl, rfl, rfl, trivial⟩, trivial, rfl⟩
    ·skip
     iterate 3 refine s_val rfl rfl rfl rfl ?_
     iterate 3 refine s_no rfl rfl rfl ?_
     refine s_val rfl rfl rfl rfl <| s_val rfl rfl rfl rfl <| s_no rfl rfl rfl <| s_no rfl rfl rfl <| s_val rfl rfl rfl rfl <| s_val rfl rfl rfl rfl ?_
     iterate 6 refine s_no rfl rfl rfl ?_
     refine s_val rfl rfl rfl rfl <| s_nil ?_
     refine s_if rfl (fun ht => ?_) (fun ht => ?_)
     ·skip
      refine s_exit ?_
      refine s_seq <| s_region <| s_val rfl rfl rfl rfl <| s_val rfl rfl rfl rfl ?_
      refine s_val rfl (o_eq rfl (show vint (IntKind.i64.wrap ((i : Int) - (n : Nat))) = vint ((i - n : Nat) : Int) by rw [wrap_id (by omega) (by omega)]; congr 1; omega)) rfl rfl ?_
      refine s_val rfl rfl rfl rfl <| s_nil <| s_ret ?_
      exact ⟨.inr rfl, _, rfl, ⟨i - n, rfl, by omega⟩, rfl⟩
     refine s_skip ?_
     exact ⟨_, trivial, ⟨rfl, rfl, rfl, rfl, rfl, trivial⟩, trivial, rfl⟩
   ·skip
    refine s_val rfl rfl rfl rfl <| s_val rfl rfl rfl rfl ?_
    iterate 3 refine s_no rfl rfl rfl ?_
    refine s_val rfl rfl rfl rfl <| s_val rfl rfl rfl rfl ?_
    iterate 3 refine s_no rfl rfl rfl ?_
    refine s_val rfl rfl rfl rfl <| s_val rfl rfl rfl rfl <| s_no rfl rfl rfl <| s_no rfl rfl rfl <| s_val rfl rfl rfl rfl <| s_val rfl rfl rfl rfl ?_
    iterate 6 refine s_no rfl rfl rfl ?_
    refine s_val rfl rfl rfl rfl <| s_nil ?_
    refine s_if rfl (fun ht => ?_) (fun ht => ?_)
    ·skip
     refine s_exit ?_
     refine s_seq <| s_region <| s_val rfl rfl rfl rfl <| s_val rfl rfl rfl rfl ?_
     refine s_val rfl (o_eq rfl (show vint (IntKind.i64.wrap ((i : Int) - (n : Nat))) = vint ((i - n : Nat) : Int) by rw [wrap_id (by omega) (by omega)]; congr 1; omega)) rfl rfl ?_
     refine s_val rfl rfl rfl rfl <| s_nil <| s_ret ?_
     exact ⟨.inr rfl, _, rfl, ⟨i - n, rfl, by omega⟩, rfl⟩
    refine s_skip ?_
    exact ⟨_, trivial, ⟨rfl, rfl, rfl, rfl, rfl, trivial⟩, trivial, rfl⟩
  rintro x _
  refine s_region <| s_val rfl rfl rfl rfl ?_
  refine s_val rfl (o_eq rfl (wrap_succ (n := i) (by omega))) rfl rfl ?_
  refine s_val rfl rfl rfl rfl <| s_nil ?_
  exact ⟨i + 1, ⟨by omega, hil⟩, by omega, ⟨rfl, rfl, rfl, rfl, trivial⟩, trivial, rfl⟩
 ·have hlt1 : decide ((i : Int) < (s.length : Nat)) = false := decide_eq_false (fun h => hil (Int.ofNat_lt.1 h))
  refine s_cond_f (congrArg (fun t => some (vbool t)) hlt1) ?_
  refine s_exit ?_
  refine s_seq <| s_region <| s_val rfl rfl rfl rfl <| s_val rfl rfl rfl rfl ?_
  refine s_val rfl (o_eq rfl (show vint (IntKind.i64.wrap ((i : Int) - (n : Nat))) = vint ((i - n : Nat) : Int) by rw [wrap_id (by omega) (by omega)]; congr 1; omega)) rfl rfl ?_
  refine s_val rfl rfl rfl rfl <| s_nil <| s_ret ?_
  exact ⟨.inr rfl, _, rfl, ⟨i - n, rfl, by omega⟩, rfl⟩
theorem word_ret (s : List UInt8) (h : Hp) : Ret ctx Or Xo 152 [.d (.str s)] h (fun v h' => ∃ m : Nat, v = vint m ∧ h' = h) := by
 refine body (env := [(0, .d (.str s))]) (rs := [.tmp 2]) Tryz.func152 rfl rfl Tryz.ntmps152 rfl rfl ?_
 refine s_seq <| s_region <| s_val rfl rfl rfl rfl <| s_nil <| s_seq <| s_seq <| s_region <| s_val rfl rfl rfl rfl <| s_nil <| s_block <| s_seq <| s_region <| s_val rfl rfl rfl rfl <| s_val rfl rfl rfl rfl <| s_nil ?_
 refine s_if rfl (fun ht => ?_) (fun ht => ?_)
 ·skip
  refine s_seq <| s_region <| s_val rfl rfl rfl rfl <| s_nil <| s_ret ?_
  first | exact ⟨.inr rfl, _, rfl, 6, rfl, rfl⟩ | exact ⟨.inr rfl, _, rfl, 5, rfl, rfl⟩ | exact ⟨.inr rfl, _, rfl, 1, rfl, rfl⟩
 refine s_mid (ι := Bool) (fun x => ⟨[(3, .d (.str s)), (6, vbool x)], [], h⟩) (fun _ => True) ?_ ?_
 ·skip
  refine s_seq <| s_region <| s_val rfl rfl rfl rfl <| s_val rfl rfl rfl rfl <| s_nil ?_
  refine s_if rfl (fun ht => ?_) (fun ht => ?_)
  ·skip
   refine s_skip ?_
   exact ⟨_, trivial, ⟨rfl, rfl, trivial⟩, trivial, rfl⟩
  refine s_seq <| s_region <| s_val rfl rfl rfl rfl <| s_val rfl rfl rfl rfl <| s_nil ?_
  refine s_if rfl (fun ht => ?_) (fun ht => ?_)
  ·skip
   refine s_skip ?_
   exact ⟨_, trivial, ⟨rfl, rfl, trivial⟩, trivial, rfl⟩
  refine s_seq <| s_region <| s_val rfl rfl rfl rfl <| s_val rfl rfl rfl rfl <| s_nil ?_
  refine s_if rfl (fun ht => ?_) (fun ht => ?_)
  ·skip
   refine s_skip ?_
   exact ⟨_, trivial, ⟨rfl, rfl, trivial⟩, trivial, rfl⟩
  refine s_seq <| s_region <| s_val rfl rfl rfl rfl <| s_val rfl rfl rfl rfl <| s_nil ?_
  refine s_if rfl (fun ht => ?_) (fun ht => ?_)
  ·skip
   refine s_skip ?_
   exact ⟨_, trivial, ⟨rfl, rfl, trivial⟩, trivial, rfl⟩
  refine s_seq <| s_region <| s_val rfl rfl rfl rfl <| s_val rfl rfl rfl rfl <| s_nil ?_
  refine s_if rfl (fun ht => ?_) (fun ht => ?_)
  ·skip
   refine s_skip ?_
   exact ⟨_, trivial, ⟨rfl, rfl, trivial⟩, trivial, rfl⟩
  refine s_seq <| s_region <| s_val rfl rfl rfl rfl <| s_val rfl rfl rfl rfl <| s_nil ?_
  refine s_if rfl (fun ht => ?_) (fun ht => ?_)
  ·skip
   refine s_skip ?_
   exact ⟨_, trivial, ⟨rfl, rfl, trivial⟩, trivial, rfl⟩
  refine s_seq <| s_region <| s_val rfl rfl rfl rfl <| s_val rfl rfl rfl rfl <| s_nil ?_
  refine s_if rfl (fun ht => ?_) (fun ht => ?_)
  ·skip
   refine s_skip ?_
   exact ⟨_, trivial, ⟨rfl, rfl, trivial⟩, trivial, rfl⟩
  refine s_seq <| s_region <| s_val rfl rfl rfl rfl <| s_val rfl rfl rfl rfl <| s_nil ?_
  refine s_if rfl (fun ht => ?_) (fun ht => ?_)
  ·skip
   refine s_skip ?_
   exact ⟨_, trivial, ⟨rfl, rfl, trivial⟩, trivial, rfl⟩
  refine s_seq <| s_region <| s_val rfl rfl rfl rfl <| s_val rfl rfl rfl rfl <| s_nil ?_
  refine s_if rfl (fun ht => ?_) (fun ht => ?_)
  ·skip
   refine s_skip ?_
   exact ⟨_, trivial, ⟨rfl, rfl, trivial⟩, trivial, rfl⟩
  refine s_seq <| s_region <| s_val rfl rfl rfl rfl <| s_val rfl rfl rfl rfl <| s_nil ?_
  refine s_if rfl (fun ht => ?_) (fun ht => ?_)
  ·skip
   refine s_skip ?_
   exact ⟨_, trivial, ⟨rfl, rfl, trivial⟩, trivial, rfl⟩
  refine s_seq <| s_region <| s_val rfl rfl rfl rfl <| s_val rfl rfl rfl rfl <| s_nil ?_
  refine s_if rfl (fun ht => ?_) (fun ht => ?_)
  ·skip
   refine s_skip ?_
   exact ⟨_, trivial, ⟨rfl, rfl, trivial⟩, trivial, rfl⟩
  refine s_seq <| s_region <| s_val rfl rfl rfl rfl <| s_val rfl rfl rfl rfl <| s_nil ?_
  refine s_if rfl (fun ht => ?_) (fun ht => ?_)
  ·skip
   refine s_skip ?_
   exact ⟨_, trivial, ⟨rfl, rfl, trivial⟩, trivial, rfl⟩
  refine s_region <| s_val rfl rfl rfl rfl <| s_val rfl rfl rfl rfl <| s_nil ?_
  exact ⟨_, trivial, ⟨rfl, rfl, trivial⟩, trivial, rfl⟩
 rintro x _
 refine s_if rfl (fun ht => ?_) (fun ht => ?_)
 ·skip
  refine s_seq <| s_region <| s_val rfl rfl rfl rfl <| s_nil <| s_ret ?_
  first | exact ⟨.inr rfl, _, rfl, 6, rfl, rfl⟩ | exact ⟨.inr rfl, _, rfl, 5, rfl, rfl⟩ | exact ⟨.inr rfl, _, rfl, 1, rfl, rfl⟩
 refine s_skip <| s_seq <| s_region <| s_val rfl rfl rfl rfl <| s_nil <| s_ret ?_
 first | exact ⟨.inr rfl, _, rfl, 6, rfl, rfl⟩ | exact ⟨.inr rfl, _, rfl, 5, rfl, rfl⟩ | exact ⟨.inr rfl, _, rfl, 1, rfl, rfl⟩
theorem slice_str {s : List UInt8} {i j : Nat} (hij : i ≤ j) (hj : j ≤ s.length) : sliceA ctx 9 (.d (.str s)) (some (vint i)) (some (vint j)) = some (.d (.str ((s.take j).drop i))) := by
 have ht : ctx.T 9 = some ti9 := rfl
 have hb : bounds s.length s.length (some (vint i)) (some (vint j)) = some (i, j) := by
  simp only [bounds, intOf?, vint]
  rw [if_pos ⟨Int.natCast_nonneg _, by omega⟩]
  simp only [Int.toNat_natCast]
  rw [if_pos ⟨Int.natCast_nonneg _, by omega⟩]
 simp only [sliceA, ht, ti9, hb]
theorem o_sliceS {C : Ctx} {A : FAnn} {ρ : Operand → Option AV} {L : Loc} {H : Nat → Option Obj} {o : Oper} {t : TypeId} {x y z : Operand} {a b c v : AV} (hop : o.op = .slice t x (some y) (some z) none) (hx : ρ x = some a) (hy : ρ y = some b) (hz : ρ z = some c) (hv : sliceA C t a (some b) (some c) = some v) : opA C A ρ L H o = some (.val v) := by
 unfold opA
 simp only [hop, hx, hy, hz, Option.map_some, hv]
theorem sign_ret {s : List UInt8} (hs0 : 0 < s.length) (hs : s.length ≤ 2 ^ 30) (h : Hp) : Ret ctx Or Xo 155 [.d (.str s), vint 0] h (fun v h' => ∃ m : Nat, v = vint m ∧ h' = h) := by
 refine body (env := [(0, .d (.str s)), (1, vint 0)]) (rs := [.tmp 4]) Tryz.func155 rfl rfl Tryz.ntmps155 rfl rfl ?_
 refine s_seq <| s_region <| s_val rfl rfl rfl rfl <| s_nil ?_
 refine s_mid (ι := Unit) (fun x => ⟨[(0, .d (.str s)), (1, vint 0)], [], h⟩) (fun _ => True) ?_ ?_
 ·skip
  refine s_seq <| s_region ?_
  iterate 5 refine s_val rfl rfl rfl rfl ?_
  refine s_nil ?_
  by_cases h1 : 1 < s.length
  ·refine s_cond_t (congrArg (fun t => some (vbool t)) (decide_eq_true (show (IntKind.i64.wrap ((0 : Int) + 1)) < ((s.length : Nat) : Int) by rw [wrap_id (by omega) (by omega)]; omega))) ?_
   refine s_seq <| s_region ?_
   iterate 3 refine s_val rfl rfl rfl rfl ?_
   refine s_val rfl (o_eq rfl (show vint (IntKind.i64.wrap ((0 : Int) + 2)) = vint (2 : Nat) by rw [wrap_id (by omega) (by omega)]; rfl)) rfl rfl ?_
   refine s_val rfl (o_sliceS rfl rfl rfl rfl (slice_str (i := 0) (j := 2) (by omega) (by omega))) rfl rfl ?_
   refine s_nil <| s_block ?_
   refine s_mid (ι := Bool) (fun x => ⟨[(0, .d (.str s)), (1, vint 0), (15, vbool x)], [], h⟩) (fun _ => True) ?_ ?_
   ·skip
    refine s_seq <| s_region <| s_val rfl rfl rfl rfl <| s_val rfl rfl rfl rfl <| s_nil ?_
    refine s_if rfl (fun ht => ?_) (fun ht => ?_)
    ·skip
     refine s_skip ?_
     exact ⟨_, trivial, ⟨rfl, rfl, rfl, trivial⟩, trivial, rfl⟩
    refine s_seq <| s_region <| s_val rfl rfl rfl rfl <| s_val rfl rfl rfl rfl <| s_nil ?_
    refine s_if rfl (fun ht => ?_) (fun ht => ?_)
    ·skip
     refine s_skip ?_
     exact ⟨_, trivial, ⟨rfl, rfl, rfl, trivial⟩, trivial, rfl⟩
    refine s_region <| s_val rfl rfl rfl rfl <| s_val rfl rfl rfl rfl <| s_nil ?_
    exact ⟨_, trivial, ⟨rfl, rfl, rfl, trivial⟩, trivial, rfl⟩
   rintro x _
   refine s_if rfl (fun ht => ?_) (fun ht => ?_)
   ·skip
    refine s_seq <| s_region <| s_val rfl rfl rfl rfl <| s_nil <| s_ret ?_
    first | exact ⟨.inr rfl, _, rfl, 0, rfl, rfl⟩ | exact ⟨.inr rfl, _, rfl, 1, rfl, rfl⟩ | exact ⟨.inr rfl, _, rfl, 2, rfl, rfl⟩
   refine s_skip ?_
   exact ⟨(), trivial, ⟨rfl, rfl, trivial⟩, trivial, rfl⟩
  ·refine s_cond_f (congrArg (fun t => some (vbool t)) (decide_eq_false (show ¬ (IntKind.i64.wrap ((0 : Int) + 1)) < ((s.length : Nat) : Int) by rw [wrap_id (by omega) (by omega)]; omega))) ?_
   refine s_skip ?_
   exact ⟨(), trivial, ⟨rfl, rfl, trivial⟩, trivial, rfl⟩
 rintro _ _
 refine s_seq <| s_seq <| s_region <| s_val rfl rfl rfl rfl <| s_val rfl rfl rfl rfl ?_
 refine s_val rfl (o_indexS rfl rfl rfl (index_str (i := 0) hs0)) rfl rfl ?_
 refine s_nil <| s_block ?_
 refine s_mid (ι := Bool) (fun x => ⟨[(22, vbool x)], [], h⟩) (fun _ => True) ?_ ?_
 ·skip
  refine s_seq <| s_region <| s_val rfl rfl rfl rfl <| s_val rfl rfl rfl rfl <| s_nil ?_
  refine s_if rfl (fun ht => ?_) (fun ht => ?_)
  ·skip
   refine s_skip ?_
   exact ⟨_, trivial, ⟨rfl, trivial⟩, trivial, rfl⟩
  refine s_seq <| s_region <| s_val rfl rfl rfl rfl <| s_val rfl rfl rfl rfl <| s_nil ?_
  refine s_if rfl (fun ht => ?_) (fun ht => ?_)
  ·skip
   refine s_skip ?_
   exact ⟨_, trivial, ⟨rfl, trivial⟩, trivial, rfl⟩
  refine s_seq <| s_region <| s_val rfl rfl rfl rfl <| s_val rfl rfl rfl rfl <| s_nil ?_
  refine s_if rfl (fun ht => ?_) (fun ht => ?_)
  ·skip
   refine s_skip ?_
   exact ⟨_, trivial, ⟨rfl, trivial⟩, trivial, rfl⟩
  refine s_seq <| s_region <| s_val rfl rfl rfl rfl <| s_val rfl rfl rfl rfl <| s_nil ?_
  refine s_if rfl (fun ht => ?_) (fun ht => ?_)
  ·skip
   refine s_skip ?_
   exact ⟨_, trivial, ⟨rfl, trivial⟩, trivial, rfl⟩
  refine s_seq <| s_region <| s_val rfl rfl rfl rfl <| s_val rfl rfl rfl rfl <| s_nil ?_
  refine s_if rfl (fun ht => ?_) (fun ht => ?_)
  ·skip
   refine s_skip ?_
   exact ⟨_, trivial, ⟨rfl, trivial⟩, trivial, rfl⟩
  refine s_seq <| s_region <| s_val rfl rfl rfl rfl <| s_val rfl rfl rfl rfl <| s_nil ?_
  refine s_if rfl (fun ht => ?_) (fun ht => ?_)
  ·skip
   refine s_skip ?_
   exact ⟨_, trivial, ⟨rfl, trivial⟩, trivial, rfl⟩
  refine s_seq <| s_region <| s_val rfl rfl rfl rfl <| s_val rfl rfl rfl rfl <| s_nil ?_
  refine s_if rfl (fun ht => ?_) (fun ht => ?_)
  ·skip
   refine s_skip ?_
   exact ⟨_, trivial, ⟨rfl, trivial⟩, trivial, rfl⟩
  refine s_seq <| s_region <| s_val rfl rfl rfl rfl <| s_val rfl rfl rfl rfl <| s_nil ?_
  refine s_if rfl (fun ht => ?_) (fun ht => ?_)
  ·skip
   refine s_skip ?_
   exact ⟨_, trivial, ⟨rfl, trivial⟩, trivial, rfl⟩
  refine s_region <| s_val rfl rfl rfl rfl <| s_val rfl rfl rfl rfl <| s_nil ?_
  exact ⟨_, trivial, ⟨rfl, trivial⟩, trivial, rfl⟩
 rintro x _
 refine s_if rfl (fun ht => ?_) (fun ht => ?_)
 ·skip
  refine s_seq <| s_region <| s_val rfl rfl rfl rfl <| s_nil <| s_ret ?_
  first | exact ⟨.inr rfl, _, rfl, 0, rfl, rfl⟩ | exact ⟨.inr rfl, _, rfl, 1, rfl, rfl⟩ | exact ⟨.inr rfl, _, rfl, 2, rfl, rfl⟩
 refine s_skip <| s_seq <| s_region <| s_val rfl rfl rfl rfl <| s_nil <| s_ret ?_
 first | exact ⟨.inr rfl, _, rfl, 0, rfl, rfl⟩ | exact ⟨.inr rfl, _, rfl, 1, rfl, rfl⟩ | exact ⟨.inr rfl, _, rfl, 2, rfl, rfl⟩
end Go.Dv.Us
/- token, lex.Kind. -/
namespace Go.Dv.Us
open Go.Dv.K Go.Proofs
theorem one_lt {n : Nat} (h : 1 < n) : decide (IntKind.i64.wrap ((0 : Int) + 1) < ((n : Nat) : Int)) = true := decide_eq_true (by rw [wrap_id (by omega) (by omega)]; omega)
theorem not_one_lt {n : Nat} (h : ¬ 1 < n) : decide (IntKind.i64.wrap ((0 : Int) + 1) < ((n : Nat) : Int)) = false := decide_eq_false (by rw [wrap_id (by omega) (by omega)]; omega)
theorem one_val : vint (IntKind.i64.wrap ((0 : Int) + 1)) = vint (1 : Nat) := by rw [wrap_id (by omega) (by omega)]; rfl
theorem token_ret {s : List UInt8} (hs0 : 0 < s.length) (hs : s.length ≤ 2 ^ 30) (h : Hp) : Ret ctx Or Xo 85 [.d (.str s), vint 0] h (fun v h' => ∃ a b : Nat, v = .tuple [vint a, vint b] ∧ h' = h) := by
 refine body (env := [(0, .d (.str s)), (1, vint 0)]) (rs := [.tmp 4, .tmp 5]) Tryz.func85 rfl rfl Tryz.ntmps85 rfl rfl ?_
 refine s_seq <| s_region <| s_val rfl rfl rfl rfl <| s_val rfl rfl rfl rfl <| s_nil <| s_seq <| s_region <| s_val rfl rfl rfl rfl <| s_val rfl rfl rfl rfl ?_
 refine s_val rfl (o_indexS rfl rfl rfl (index_str (i := 0) hs0)) rfl rfl ?_
 refine s_val rfl rfl rfl rfl <| s_nil <| s_seq <| s_block ?_
 refine s_mid (ι := Bool) (fun x => ⟨[(0, .d (.str s)), (1, vint 0), (4, vint 0), (5, vint 0), (6, vbyte (s[0])), (13, vbool x)], [], h⟩) (fun _ => True) ?_ ?_
 ·skip
  refine s_region <| s_val rfl rfl rfl rfl ?_
  refine s_ret1 (small_ret s[0] h) rfl rfl rfl rfl ?_
  rintro _ h ⟨b1, rfl, he⟩
  subst he
  cases b1
  ·skip
   iterate 5 refine s_val rfl rfl rfl rfl ?_
   refine s_nil ?_
   exact ⟨_, trivial, ⟨rfl, rfl, rfl, rfl, rfl, rfl, trivial⟩, trivial, rfl⟩
  ·skip
   refine s_val rfl rfl rfl rfl <| s_no rfl rfl rfl <| s_no rfl rfl rfl <| s_val rfl rfl rfl rfl <| s_val rfl rfl rfl rfl <| s_nil ?_
   exact ⟨_, trivial, ⟨rfl, rfl, rfl, rfl, rfl, rfl, trivial⟩, trivial, rfl⟩
 rintro x _
 refine s_if rfl (fun ht => ?_) (fun ht => ?_)
 ·skip
  refine s_seq <| s_region <| s_val rfl rfl rfl rfl <| s_val rfl rfl rfl rfl ?_
  refine s_ret1 (run_ret (n := 0) (b := true) (Nat.zero_le _) hs) rfl rfl rfl rfl ?_
  rintro _ h ⟨⟨m, rfl, hm⟩, he⟩
  subst he
  rw [Nat.zero_add] at hm
  refine s_val rfl rfl rfl rfl <| s_nil <| s_seq <| s_region ?_
  iterate 4 refine s_val rfl rfl rfl rfl ?_
  refine s_val rfl (o_eq rfl (show vint (IntKind.i64.wrap ((0 : Int) + (m : Nat))) = vint ((m : Nat) : Int) by rw [wrap_id (by omega) (by omega)]; congr 1; omega)) rfl rfl ?_
  refine s_val rfl (o_sliceS rfl rfl rfl rfl (slice_str (i := 0) (j := m) (Nat.zero_le _) hm)) rfl rfl ?_
  refine s_ret1 (word_ret _ _) rfl rfl rfl rfl ?_
  rintro _ h ⟨w, rfl, he⟩
  subst he
  iterate 3 refine s_val rfl rfl rfl rfl ?_
  refine s_nil <| s_ret ?_
  first | exact ⟨.inr rfl, _, rfl, _, _, rfl, rfl⟩ | exact ⟨.inr rfl, _, rfl, 0, 0, rfl, rfl⟩ | exact ⟨.inr rfl, _, rfl, 2, _, rfl, rfl⟩ | exact ⟨.inr rfl, _, rfl, 3, _, rfl, rfl⟩ | exact ⟨.inr rfl, _, rfl, 4, _, rfl, rfl⟩ | exact ⟨.inr rfl, _, rfl, 6, _, rfl, rfl⟩
 refine s_seq <| s_region <| s_val rfl rfl rfl rfl ?_
 refine s_ret1 (great_ret s[0] _) rfl rfl rfl rfl ?_
 rintro _ h ⟨b2, rfl, he⟩
 subst he
 refine s_val rfl rfl rfl rfl <| s_nil ?_
 refine s_if rfl (fun ht => ?_) (fun ht => ?_)
 ·skip
  refine s_seq <| s_region <| s_val rfl rfl rfl rfl <| s_val rfl rfl rfl rfl ?_
  refine s_ret1 (run_ret (n := 0) (b := true) (Nat.zero_le _) hs) rfl rfl rfl rfl ?_
  rintro _ h ⟨⟨m, rfl, hm⟩, he⟩
  subst he
  refine s_val rfl rfl rfl rfl <| s_val rfl rfl rfl rfl <| s_nil <| s_ret ?_
  first | exact ⟨.inr rfl, _, rfl, _, _, rfl, rfl⟩ | exact ⟨.inr rfl, _, rfl, 0, 0, rfl, rfl⟩ | exact ⟨.inr rfl, _, rfl, 2, _, rfl, rfl⟩ | exact ⟨.inr rfl, _, rfl, 3, _, rfl, rfl⟩ | exact ⟨.inr rfl, _, rfl, 4, _, rfl, rfl⟩ | exact ⟨.inr rfl, _, rfl, 6, _, rfl, rfl⟩
 refine s_seq <| s_region <| s_val rfl rfl rfl rfl ?_
 refine s_ret1 (digit_ret s[0] _) rfl rfl rfl rfl ?_
 rintro _ h ⟨b3, rfl, he⟩
 subst he
 refine s_val rfl rfl rfl rfl <| s_nil ?_
 refine s_if rfl (fun ht => ?_) (fun ht => ?_)
 ·skip
  refine s_seq <| s_region <| s_val rfl rfl rfl rfl ?_
  refine s_val rfl (o_eq rfl (one_val)) rfl rfl ?_
  refine s_val rfl rfl rfl rfl <| s_nil <| s_seq <| s_block ?_
  refine s_rounds (ι := Nat) (fun i => ⟨[(0, .d (.str s)), (1, vint 0), (8, vint i)], [], h⟩) (fun i => i ≤ s.length) (fun i => s.length - i) ?_ 1 hs0 ⟨⟨rfl, rfl, rfl, trivial⟩, trivial, rfl⟩
  rintro i hi
  refine s_seq <| s_seq <| s_region ?_
  iterate 5 refine s_val rfl rfl rfl rfl ?_
  by_cases hil : i < s.length
  ·rw [show decide ((i : Int) < (s.length : Nat)) = true from decide_eq_true (Int.ofNat_lt.2 hil)]
   refine s_val rfl rfl rfl rfl <| s_val rfl rfl rfl rfl ?_
   refine s_val rfl (o_indexS rfl rfl rfl (index_str hil)) rfl rfl ?_
   refine s_ret1 (digit_ret s[i] _) rfl rfl rfl rfl ?_
   rintro _ h ⟨b4, rfl, he⟩
   subst he
   refine s_val rfl rfl rfl rfl <| s_nil ?_
   refine s_if rfl (fun ht => ?_) (fun ht => ?_)
   ·skip
    refine s_skip <| s_block <| s_region <| s_val rfl rfl rfl rfl ?_
    refine s_val rfl (o_eq rfl (wrap_succ (n := i) (by omega))) rfl rfl ?_
    refine s_val rfl rfl rfl rfl <| s_nil ?_
    exact ⟨i + 1, hil, by omega, ⟨rfl, rfl, rfl, trivial⟩, trivial, rfl⟩
   refine s_exit ?_
   refine s_seq <| s_region <| s_val rfl rfl rfl rfl <| s_val rfl rfl rfl rfl ?_
   refine s_val rfl (o_eq rfl (show vint (IntKind.i64.wrap ((i : Int) - 0)) = vint ((i : Nat) : Int) by rw [wrap_id (by omega) (by omega)]; congr 1)) rfl rfl ?_
   refine s_val rfl rfl rfl rfl <| s_val rfl rfl rfl rfl <| s_nil <| s_ret ?_
   first | exact ⟨.inr rfl, _, rfl, _, _, rfl, rfl⟩ | exact ⟨.inr rfl, _, rfl, 0, 0, rfl, rfl⟩ | exact ⟨.inr rfl, _, rfl, 2, _, rfl, rfl⟩ | exact ⟨.inr rfl, _, rfl, 3, _, rfl, rfl⟩ | exact ⟨.inr rfl, _, rfl, 4, _, rfl, rfl⟩ | exact ⟨.inr rfl, _, rfl, 6, _, rfl, rfl⟩
  ·rw [show decide ((i : Int) < (s.length : Nat)) = false from decide_eq_false (fun h => hil (Int.ofNat_lt.1 h))]
   iterate 4 refine s_no rfl rfl rfl ?_
   refine s_val rfl rfl rfl rfl <| s_nil <| s_cond_f rfl ?_
   refine s_exit ?_
   refine s_seq <| s_region <| s_val rfl rfl rfl rfl <| s_val rfl rfl rfl rfl ?_
   refine s_val rfl (o_eq rfl (show vint (IntKind.i64.wrap ((i : Int) - 0)) = vint ((i : Nat) : Int) by rw [wrap_id (by omega) (by omega)]; congr 1)) rfl rfl ?_
   refine s_val rfl rfl rfl rfl <| s_val rfl rfl rfl rfl <| s_nil <| s_ret ?_
   first | exact ⟨.inr rfl, _, rfl, _, _, rfl, rfl⟩ | exact ⟨.inr rfl, _, rfl, 0, 0, rfl, rfl⟩ | exact ⟨.inr rfl, _, rfl, 2, _, rfl, rfl⟩ | exact ⟨.inr rfl, _, rfl, 3, _, rfl, rfl⟩ | exact ⟨.inr rfl, _, rfl, 4, _, rfl, rfl⟩ | exact ⟨.inr rfl, _, rfl, 6, _, rfl, rfl⟩
 refine s_seq <| s_region ?_
 iterate 3 refine s_val rfl rfl rfl rfl ?_
 refine s_nil ?_
 refine s_if rfl (fun ht => ?_) (fun ht => ?_)
 ·skip
  refine s_mid (ι := Unit) (fun x => ⟨[], [], h⟩) (fun _ => True) ?_ ?_
  ·skip
   refine s_seq <| s_region <| s_val rfl rfl rfl rfl ?_
   refine s_val rfl (o_eq rfl (one_val)) rfl rfl ?_
   iterate 4 refine s_val rfl rfl rfl rfl ?_
   by_cases h1 : 1 < s.length
   ·rw [show decide (((1 : Nat) : Int) < (s.length : Nat)) = true from decide_eq_true (Int.ofNat_lt.2 h1)]
    refine s_val rfl rfl rfl rfl <| s_val rfl rfl rfl rfl ?_
    refine s_val rfl (o_eq rfl (one_val)) rfl rfl ?_
    refine s_val rfl (o_indexS rfl rfl rfl (index_str h1)) rfl rfl ?_
    refine s_ret1 (small_ret s[1] _) rfl rfl rfl rfl ?_
    rintro _ h ⟨b5, rfl, he⟩
    subst he
    refine s_val rfl rfl rfl rfl <| s_nil ?_
    refine s_if rfl (fun ht => ?_) (fun ht => ?_)
    ·skip
     refine s_seq <| s_region <| s_val rfl rfl rfl rfl <| s_val rfl rfl rfl rfl ?_
     refine s_val rfl (o_eq rfl (one_val)) rfl rfl ?_
     refine s_ret1 (run_ret (n := 1) (b := false) (by omega) hs) rfl rfl rfl rfl ?_
     rintro _ h ⟨⟨m, rfl, hm⟩, he⟩
     subst he
     refine s_val rfl (o_eq rfl (show vint (IntKind.i64.wrap ((1 : Int) + (m : Nat))) = vint ((1 + m : Nat) : Int) by rw [wrap_id (by omega) (by omega)]; try congr 1)) rfl rfl ?_
     refine s_val rfl rfl rfl rfl <| s_val rfl rfl rfl rfl <| s_nil <| s_ret ?_
     first | exact ⟨.inr rfl, _, rfl, _, _, rfl, rfl⟩ | exact ⟨.inr rfl, _, rfl, 0, 0, rfl, rfl⟩ | exact ⟨.inr rfl, _, rfl, 2, _, rfl, rfl⟩ | exact ⟨.inr rfl, _, rfl, 3, _, rfl, rfl⟩ | exact ⟨.inr rfl, _, rfl, 4, _, rfl, rfl⟩ | exact ⟨.inr rfl, _, rfl, 6, _, rfl, rfl⟩
    refine s_skip ?_
    exact ⟨(), trivial, trivial, trivial, rfl⟩
   ·rw [show decide (((1 : Nat) : Int) < (s.length : Nat)) = false from decide_eq_false (fun h => h1 (Int.ofNat_lt.1 h))]
    iterate 5 refine s_no rfl rfl rfl ?_
    refine s_val rfl rfl rfl rfl <| s_nil <| s_cond_f rfl <| s_skip ?_
    exact ⟨(), trivial, trivial, trivial, rfl⟩
  rintro _ _
  refine s_seq <| s_region <| s_val rfl rfl rfl rfl <| s_val rfl rfl rfl rfl <| s_nil <| s_ret ?_
  first | exact ⟨.inr rfl, _, rfl, _, _, rfl, rfl⟩ | exact ⟨.inr rfl, _, rfl, 0, 0, rfl, rfl⟩ | exact ⟨.inr rfl, _, rfl, 2, _, rfl, rfl⟩ | exact ⟨.inr rfl, _, rfl, 3, _, rfl, rfl⟩ | exact ⟨.inr rfl, _, rfl, 4, _, rfl, rfl⟩ | exact ⟨.inr rfl, _, rfl, 6, _, rfl, rfl⟩
 refine s_skip <| s_seq <| s_seq <| s_region <| s_val rfl rfl rfl rfl <| s_val rfl rfl rfl rfl ?_
 refine s_ret1 (sign_ret hs0 hs _) rfl rfl rfl rfl ?_
 rintro _ h ⟨g, rfl, he⟩
 subst he
 refine s_val rfl rfl rfl rfl <| s_nil <| s_seq <| s_region <| s_val rfl rfl rfl rfl <| s_val rfl rfl rfl rfl <| s_nil ?_
 refine s_if rfl (fun ht => ?_) (fun ht => ?_)
 ·skip
  refine s_seq <| s_region ?_
  iterate 3 refine s_val rfl rfl rfl rfl ?_
  refine s_nil <| s_ret ?_
  first | exact ⟨.inr rfl, _, rfl, _, _, rfl, rfl⟩ | exact ⟨.inr rfl, _, rfl, 0, 0, rfl, rfl⟩ | exact ⟨.inr rfl, _, rfl, 2, _, rfl, rfl⟩ | exact ⟨.inr rfl, _, rfl, 3, _, rfl, rfl⟩ | exact ⟨.inr rfl, _, rfl, 4, _, rfl, rfl⟩ | exact ⟨.inr rfl, _, rfl, 6, _, rfl, rfl⟩
 refine s_skip <| s_seq <| s_region <| s_val rfl rfl rfl rfl <| s_val rfl rfl rfl rfl <| s_nil <| s_ret ?_
 first | exact ⟨.inr rfl, _, rfl, _, _, rfl, rfl⟩ | exact ⟨.inr rfl, _, rfl, 0, 0, rfl, rfl⟩ | exact ⟨.inr rfl, _, rfl, 2, _, rfl, rfl⟩ | exact ⟨.inr rfl, _, rfl, 3, _, rfl, rfl⟩ | exact ⟨.inr rfl, _, rfl, 4, _, rfl, rfl⟩ | exact ⟨.inr rfl, _, rfl, 6, _, rfl, rfl⟩
theorem kind_any (s : List UInt8) (hs : s.length ≤ 2 ^ 30) : ∃ n : Int, (s = [] → n = 0) ∧ ∀ h, Ret ctx Or Xo 45 [.d (.str s)] h (fun v h' => v = vint n ∧ h' = h) := by
 have h0 : Ret ctx Or Xo 45 [.d (.str s)] .empty (fun v _ => ∃ n : Nat, (s = [] → n = 0) ∧ v = vint n) := by
  refine body (env := [(0, .d (.str s))]) (rs := [.tmp 2]) Tryz.func45 rfl rfl Tryz.ntmps45 rfl rfl ?_
  refine s_seq <| s_region <| s_val rfl rfl rfl rfl <| s_nil <| s_seq <| s_seq <| s_region <| s_val rfl rfl rfl rfl <| s_val rfl rfl rfl rfl <| s_nil ?_
  by_cases he : s = []
  ·refine s_cond_t (congrArg (fun t => some (vbool t)) (show (s == []) = true by rw [he]; rfl)) ?_
   refine s_seq <| s_region <| s_val rfl rfl rfl rfl <| s_nil <| s_ret ?_
   first | exact ⟨.inr rfl, _, rfl, 0, fun _ => rfl, rfl⟩ | exact ⟨.inr rfl, _, rfl, _, fun h => absurd h he, rfl⟩
  ·refine s_cond_f (congrArg (fun t => some (vbool t)) (show (s == []) = false from beq_false_of_ne he)) ?_
   refine s_skip <| s_seq <| s_region <| s_val rfl rfl rfl rfl ?_
   refine s_ret1 (token_ret (by cases s with | nil => exact absurd rfl he | cons _ _ => exact Nat.succ_pos _) hs _) rfl rfl rfl rfl ?_
   rintro _ _ ⟨a, b, rfl, rfl⟩
   iterate 5 refine s_val rfl rfl rfl rfl ?_
   refine s_nil <| s_seq <| s_seq <| s_region ?_
   iterate 4 refine s_val rfl rfl rfl rfl ?_
   refine s_nil ?_
   refine s_if rfl (fun ht => ?_) (fun ht => ?_)
   ·skip
    refine s_seq <| s_region <| s_val rfl rfl rfl rfl <| s_nil <| s_ret ?_
    first | exact ⟨.inr rfl, _, rfl, 0, fun _ => rfl, rfl⟩ | exact ⟨.inr rfl, _, rfl, _, fun h => absurd h he, rfl⟩
   refine s_skip <| s_seq <| s_region <| s_val rfl rfl rfl rfl <| s_val rfl rfl rfl rfl <| s_nil <| s_ret ?_
   first | exact ⟨.inr rfl, _, rfl, 0, fun _ => rfl, rfl⟩ | exact ⟨.inr rfl, _, rfl, _, fun h => absurd h he, rfl⟩
 obtain ⟨v, h', hb, n, hn, rfl⟩ := h0
 exact ⟨n, fun h => by rw [hn h]; rfl, fun h => ⟨_, _, .closed hb rfl rfl, rfl, rfl⟩⟩
open Classical in
/-- What lex.Kind tells of a name. -/
noncomputable def kindOf (s : List UInt8) : Int := if hs : s.length ≤ 2 ^ 30 then Classical.choose (kind_any s hs) else 0
theorem kindOk : KindOk kindOf := by
 intro name h hl
 have := (Classical.choose_spec (kind_any name hl)).2 h
 unfold kindOf
 rw [dif_pos hl]
 exact this
theorem kindOf_nil : kindOf [] = 0 := by
 unfold kindOf
 rw [dif_pos (show ([] : List UInt8).length ≤ 2 ^ 30 from Nat.zero_le _)]
 exact (Classical.choose_spec (kind_any [] (Nat.zero_le _))).1 rfl
end Go.Dv.Us
