/- A part of the proof of InferUses, second form: for every input of bulk at most 1048576 the call returns true and the arguments read as they did. Its condition: that bulk. -/
import Derived.Test.YtanhfhjoeoinoaaGreatDoorU33
import Derived.Deep.DeepHandedRow
import Derived.Deep.Slices
import Derived.Lib.SmallJoins
import Derived.Carry
import Derived.Test.YtanhfhjoeoinoaaGreatDoorRows
import Derived.Test.YtanhfhjoeoinoaaGreatDoorCards
import Derived.Test.YtanhfhjoeoinoaaGreatDoorTie
import Derived.OpenShut
import Derived.JoinedCond
/- InferUses answers true. -/
namespace Go.Dv.Us
open Go.Dv.K Go.Proofs
theorem heavy {t : Ty} (h : t.weigh ≤ 100) : t.size ≤ 100 ∧ ∀ q ∈ t.pre, q.name.length ≤ 1600 := by
 obtain ⟨h1, _, h3⟩ := t.weigh_all
 exact ⟨by omega, fun q hq => by have := h3 q hq; omega⟩
theorem closeA_cases (t : Ty) : (t.right kindOf = true ∧ closeA kindOf t = .tuple [t.close.agg, vint 0]) ∨ (t.right kindOf = false ∧ closeA kindOf t = .tuple [ty0.agg, vint 120]) := by
 unfold closeA
 cases h : t.right kindOf with
 | true => exact .inl ⟨rfl, rfl⟩
 | false => exact .inr ⟨rfl, rfl⟩
/-- What the law's second half knows. -/
structure Know (F X : Ty) (S : Store) (e : Nat) (Ta Tb Tr : Ty) (s : List UInt8) : Prop where
 hu : (use4 F X).S.unify (2 ^ 25) (use4 F X).a (use4 F X).c = some (S, e)
 he : e = 131 ∨ e = 130 ∨ e = 0
 un : e = 0 → Unified shortK (use4 F X) S Ta Tb Tr
 hr : e = 0 → Tr.size ≤ 300 → Tr.close.right kindOf = true ∧ Tr.close.Short
 hs : e = 0 → Tr.size ≤ 300 → ∀ h, Ret ctx Or Xo 34 [Tr.close.agg] h (fun v h' => v = .tuple [.d (.str s), vint 0] ∧ h' = h)
theorem know {F X : Ty} (hF : F.Fit shortK) (hX : X.Fit shortK) (zF : F.size ≤ 300) (zX : X.size ≤ 300) : ∃ S e Ta Tb Tr s, Know F X S e Ta Tb Tr s := by
 have hU := use4_ok hF hX zF zX
 obtain ⟨S, e, hu, hcase⟩ := use_unify hU (k := 2 ^ 25) (Nat.le_refl _)
 by_cases he : e = 0
 ·subst he
  rcases hcase with h | h | ⟨_, Ta, Tb, Tr, hUn⟩
  ·cases h
  ·cases h
  ·by_cases hz : Tr.size ≤ 300
   ·have hSl : S.nodes.length = (use4 F X).S.nodes.length := by rw [hUn.nodes]
    have hnok : ∀ n, n < S.nodes.length → NodeOk shortK (S.node n) := fun n hn => by
     have h5 : S.node n = (use4 F X).S.node n := by unfold Store.node; rw [hUn.nodes]
     rw [h5]; exact hU.made.nok n (by rw [← hSl]; exact hn)
    have hfit : Tr.close.Fit shortK := den_fit hUn.wf hnok hUn.r (by rw [hSl]; exact hU.r) fun v hv => by have := idx_close hv; omega
    have hsz : Tr.close.size = Tr.size := den_size hUn.r
    obtain ⟨hk, hn⟩ := short_fit hfit
    have hright := fit_right hk (by rw [hsz]; exact hz)
    have hnums : Nums Tr.close := ⟨hk, close_num hz, fun q hq => Nat.le_trans (hn q hq) (by decide)⟩
    have hink := ink_le Tr.close hn
    obtain ⟨s, hs⟩ := show_any hright hnums (by rw [hsz] at hink; omega)
    exact ⟨S, 0, Ta, Tb, Tr, s, hu, .inr (.inr rfl), fun _ => hUn, fun _ _ => ⟨hright, fun q hq => Nat.le_trans (hn q hq) (by decide)⟩, fun _ _ => hs⟩
   ·exact ⟨S, 0, Ta, Tb, Tr, [], hu, .inr (.inr rfl), fun _ => hUn, fun _ h => absurd h hz, fun _ h => absurd h hz⟩
 ·refine ⟨S, e, default, default, default, [], hu, ?_, fun h => absurd h he, fun h => absurd h he, fun h => absurd h he⟩
  rcases hcase with h | h | ⟨h, _⟩
  ·exact .inl h
  ·exact .inr (.inl h)
  ·exact absurd h he
theorem Unified.mono {K K' : List UInt8 → Int} {u : Use} {S : Store} {Ta Tb Tr : Ty} (h : Unified K u S Ta Tb Tr) : Unified K' u S Ta Tb Tr := ⟨h.wf, h.nodes, h.a, h.b, h.r, h.size⟩
theorem uses_ret {F0 X0 : Ty} (fF : Fine F0) (fX : Fine X0) (h : Hp) : Ret ctx Or Xo 5 [F0.agg, X0.agg] h (fun v _ => v = vbool true) := by
 have sF0 : F0.Short := fun q hq => (fF.all q hq).1
 have sX0 : X0.Short := fun q hq => (fX.all q hq).1
 refine body (env := [(0, F0.agg), (1, X0.agg)]) (rs := [.tmp 4]) Tryz.func5 rfl rfl Tryz.ntmps5 rfl rfl ?_
 refine s_seq <| s_region ?_
 refine s_newL rfl (o_boxL rfl rfl rfl rfl (agg_len _) rfl (Ty.cells_isCell _) rfl) rfl rfl rfl ?_
 refine s_newL rfl (o_boxL rfl rfl rfl rfl (agg_len _) rfl (Ty.cells_isCell _) rfl) rfl rfl rfl ?_
 refine s_val rfl rfl rfl rfl <| s_nil <| s_seq <| s_seq <| s_region ?_
 refine s_ret1 (alive_ret _) rfl rfl rfl rfl ?_
 rintro _ hz ⟨rfl, hze⟩
 subst hze
 refine s_val rfl rfl rfl rfl <| s_nil <| s_cond_f rfl <| s_skip <| s_seq <| s_seq <| s_region ?_
 refine s_val rfl (o_loadL rfl rfl rfl rfl (agg_take _) (agg_zero _)) rfl rfl ?_
 refine s_ret1 (weight_ret F0 fF.all (most := 100) (by decide)) rfl rfl rfl rfl ?_
 rintro _ hz ⟨⟨wF, rfl, hwF1, hwF2⟩, hze⟩
 subst hze
 by_cases hgF : wF > 100
 ·skip
  refine s_val rfl (o_eq rfl (congrArg vbool (decide_eq_true (show ((wF : Nat) : Int) > 100 by omega)))) rfl rfl ?_
  refine s_val rfl rfl rfl rfl ?_
  iterate 3 refine s_no rfl rfl rfl ?_
  refine s_val rfl rfl rfl rfl <| s_nil <| s_cond_t rfl <| s_seq <| s_region <| s_val rfl rfl rfl rfl <| s_nil <| s_ret ?_
  exact ⟨.inr rfl, _, rfl, rfl⟩
 ·skip
  refine s_val rfl (o_eq rfl (congrArg vbool (decide_eq_false (show ¬ ((wF : Nat) : Int) > 100 by omega)))) rfl rfl ?_
  refine s_val rfl rfl rfl rfl ?_
  refine s_val rfl (o_loadL rfl rfl rfl rfl (agg_take _) (agg_zero _)) rfl rfl ?_
  refine s_ret1 (weight_ret X0 fX.all (most := 100) (by decide)) rfl rfl rfl rfl ?_
  rintro _ hz ⟨⟨wX, rfl, hwX1, hwX2⟩, hze⟩
  subst hze
  by_cases hgX : wX > 100
  ·skip
   refine s_val rfl (o_eq rfl (congrArg vbool (decide_eq_true (show ((wX : Nat) : Int) > 100 by omega)))) rfl rfl ?_
   refine s_val rfl rfl rfl rfl <| s_nil <| s_cond_t rfl <| s_seq <| s_region <| s_val rfl rfl rfl rfl <| s_nil <| s_ret ?_
   exact ⟨.inr rfl, _, rfl, rfl⟩
  ·skip
   refine s_val rfl (o_eq rfl (congrArg vbool (decide_eq_false (show ¬ ((wX : Nat) : Int) > 100 by omega)))) rfl rfl ?_
   refine s_val rfl rfl rfl rfl <| s_nil <| s_cond_f rfl <| s_skip <| s_seq <| s_region ?_
   refine s_val rfl (o_loadL rfl rfl rfl rfl (agg_take _) (agg_zero _)) rfl rfl ?_
   refine s_ret1 (close_ret kindOk sF0 fF.size) rfl rfl rfl rfl ?_
   rintro _ h1 ⟨rfl, e1⟩
   rcases closeA_cases F0 with ⟨hrF, hcF⟩ | ⟨hrF, hcF⟩
   ·rw [hcF]
    iterate 3 refine s_val rfl rfl rfl rfl ?_
    refine s_setL rfl (o_storeL rfl rfl rfl rfl (agg_len _) rfl (Ty.cells_isCell _) rfl (by rw [agg_len, agg_len]; exact Nat.le_refl _)) rfl ?_
    refine s_val rfl rfl rfl rfl <| s_nil <| s_seq <| s_region ?_
    refine s_val rfl (o_loadL rfl rfl rfl rfl (agg_take _) (agg_zero _)) rfl rfl ?_
    refine s_ret1 (close_ret kindOk sX0 fX.size) rfl rfl rfl rfl ?_
    rintro _ h2 ⟨rfl, e2⟩
    rcases closeA_cases X0 with ⟨hrX, hcX⟩ | ⟨hrX, hcX⟩
    ·rw [hcX]
     iterate 3 refine s_val rfl rfl rfl rfl ?_
     refine s_setL rfl (o_storeL rfl rfl rfl rfl (agg_len _) rfl (Ty.cells_isCell _) rfl (by rw [agg_len, agg_len]; exact Nat.le_refl _)) rfl ?_
     refine s_val rfl rfl rfl rfl <| s_nil <| s_seq <| s_seq <| s_region ?_
     iterate 6 refine s_val rfl rfl rfl rfl ?_
     refine s_nil <| s_cond_f rfl <| s_skip <| s_seq ?_
     have wF' : F0.weigh ≤ 100 := by have := hwF2 (by omega); omega
     have wX' : X0.weigh ≤ 100 := by have := hwX2 (by omega); omega
     obtain ⟨zF0, nF0⟩ := heavy wF'
     obtain ⟨zX0, nX0⟩ := heavy wX'
     have fitF0 := fit_short (right_pos hrF).2.2 nF0
     have fitX0 := fit_short (right_pos hrX).2.2 nX0
     obtain ⟨fitF, zF⟩ := close_fit fitF0 (by omega)
     obtain ⟨fitX, zX⟩ := close_fit fitX0 (by omega)
     obtain ⟨kF, nF⟩ := short_fit fitF
     obtain ⟨kX, nX⟩ := short_fit fitX
     have sF : F0.close.Short := fun q hq => Nat.le_trans (nF q hq) (by decide)
     have sX : X0.close.Short := fun q hq => Nat.le_trans (nX q hq) (by decide)
     have rF := fit_right kF (by omega)
     have rX := fit_right kX (by omega)
     have clF := fun h => closed_ret (h := h) kindOk sF rF (by omega)
     have clX := fun h => closed_ret (h := h) kindOk sX rX (by omega)
     generalize F0.close = F at fitF zF kF nF sF rF clF ⊢
     generalize X0.close = X at fitX zX kX nX sX rX clX ⊢
     obtain ⟨S, e, Ta, Tb, Tr, s, hK⟩ := know fitF fitX (by omega) (by omega)
     have hU := use4_ok kF kX (by omega) (by omega)
     have hSl : e = 0 → S.nodes.length = (use4 F X).S.nodes.length := fun he => by rw [(hK.un he).nodes]
     have hnok : e = 0 → ∀ n, n < S.nodes.length → (S.form n).kind = 1 → (S.form n).args = [] := fun he n hn => by
      have h5 : S.node (S.formN n) = (use4 F X).S.node (S.formN n) := by unfold Store.node; rw [(hK.un he).nodes]
      have h6 := hU.made.nok (S.formN n) (by rw [← hSl he]; exact formN_lt (hK.un he).wf hn)
      rw [← h5] at h6
      exact h6.args
     refine s_region ?_
     refine s_val rfl (o_loadL rfl rfl rfl rfl (by rw [agg_put _ (agg_len _)]; exact agg_take _) (agg_zero _)) rfl rfl ?_
     refine s_val rfl (exA_build rfl rfl rfl) rfl rfl ?_
     refine s_val rfl (o_loadL rfl rfl rfl rfl (by rw [agg_put _ (agg_len _)]; exact agg_take _) (agg_zero _)) rfl rfl ?_
     refine s_val rfl (exA_build rfl rfl rfl) rfl rfl ?_
     refine s_newCells (cs := namesC F X) (len := 2) (sz := 5) (e := 42) rfl (names_build rfl rfl rfl rfl rfl) rfl rfl ?_
     refine s_ret1 (typed_ret (nv := .msl h2.next 0 2 0 5) rfl (fun h' he => by subst he; exact infer_ret (if_pos rfl) (Nat.lt_succ_self _) clF clX kF kX sF sX (by omega) (by omega) (Nat.le_refl _) (Nat.le_refl _) hK.hu hK.he (fun he => (hK.un he).mono)) hK.hr hK.hs) rfl (c_val rfl rfl rfl (args2 rfl rfl rfl rfl)) rfl rfl ?_
     rintro vt h3 hT
     rcases hT with ⟨he0, rfl⟩ | ⟨rfl, hbig, f, t, rfl⟩ | ⟨rfl, hsm, rfl⟩
     ·rcases hK.he with rfl | rfl | rfl
      ·skip
       iterate 3 refine s_val rfl rfl rfl rfl ?_
       refine s_newL rfl rfl rfl rfl rfl ?_
       refine s_val rfl rfl rfl rfl ?_
       refine s_setL rfl (o_storeL rfl rfl rfl rfl rfl rfl rfl rfl (Nat.le_refl 3)) rfl ?_
       refine s_nil <| s_seq <| s_region ?_
       refine s_ret1 (new_ret) rfl rfl rfl rfl ?_
       rintro _ h4 ⟨rfl, hS4, e4, n4⟩
       refine s_val rfl rfl rfl rfl <| s_nil <| s_seq <| s_seq <| s_region <| s_val rfl rfl rfl rfl <| s_val rfl rfl rfl rfl <| s_nil <| s_cond_f rfl <| s_skip <| s_seq <| s_region <| s_val rfl rfl rfl rfl ?_
       refine s_val rfl (o_loadL rfl rfl rfl rfl (by rw [agg_put _ (agg_len _)]; exact agg_take _) (agg_zero _)) rfl rfl ?_
       refine s_newMap rfl rfl rfl rfl ?_
       refine s_ret1 (node_ret F kF sF (s := h3.next) (S := store0) (m := []) (mp := h4.next) ⟨hS4.ext (Ext.alloc ..), if_pos rfl, fun h5 => by simp [At.own, AV.own] at h5; omega, Nat.lt_succ_self _⟩ made0 (by show 0 + F.size ≤ _; omega)) rfl rfl rfl rfl ?_
       rintro _ h5 ⟨rfl, p5, B5, F5⟩
       refine s_val rfl rfl rfl rfl <| s_nil <| s_seq ?_
       obtain ⟨M5, a5, g5⟩ := build_made F kF (made0 (K := kindOf)) (by show 0 + F.size ≤ _; omega)
       have l5 : (store0.build [] F).1.nodes.length ≤ 0 + F.size := g5.most
       refine s_region <| s_val rfl rfl rfl rfl ?_
       refine s_val rfl (o_loadL rfl rfl rfl rfl (by rw [agg_put _ (agg_len _)]; exact agg_take _) (agg_zero _)) rfl rfl ?_
       refine s_newMap rfl rfl rfl rfl ?_
       refine s_ret1 (node_ret X kX sX (s := h3.next) (S := (store0.build [] F).1) (m := []) (mp := h5.next) ⟨B5.hS.ext (Ext.alloc ..), if_pos rfl, fun h6 => by have := B5.hS.toRows4.olt _ h6; omega, Nat.lt_succ_self _⟩ M5.map (by omega)) rfl rfl rfl rfl ?_
       rintro _ h6 ⟨rfl, p6, B6, F6⟩
       refine s_val rfl rfl rfl rfl <| s_nil <| s_seq ?_
       obtain ⟨M6, a6, g6⟩ := build_made X kX M5.map (by omega)
       have l6 := g6.most
       have l6' := g6.le
       refine s_region <| s_val rfl rfl rfl rfl ?_
       refine s_ret1 (var_ret B6.hS (by omega)) rfl rfl rfl rfl ?_
       rintro _ h7 ⟨rfl, p7, hS7, F7⟩
       refine s_val rfl rfl rfl rfl <| s_nil <| s_seq <| s_region ?_
       iterate 3 refine s_val rfl rfl rfl rfl ?_
       refine s_ret1 (arrow_ret hS7 (by rw [add_len]; omega) (by rw [add_len]; omega) (by rw [add_len]; omega)) rfl rfl rfl rfl ?_
       rintro _ h8 ⟨rfl, p8, hS8, F8⟩
       iterate 5 refine s_val rfl rfl rfl rfl ?_
       refine s_nil <| s_seq <| s_region ?_
       iterate 3 refine s_val rfl rfl rfl rfl ?_
       refine s_ret1 (unify_ret (k := 2 ^ 25) (S := (use4 F X).S) (S' := S) hS8 hU.made.wf hU.a hU.c (Nat.le_refl _) hK.hu) rfl (c_val rfl rfl rfl (args3 rfl rfl rfl rfl (show _ = some (vint (use4 F X).c) from congrArg some (congrArg (fun n : Nat => vint n) add_len)) rfl)) rfl rfl ?_
       rintro _ h9 ⟨rfl, ok9, F9⟩
       refine s_val rfl rfl rfl rfl <| s_nil <| s_seq <| s_seq <| s_region <| s_val rfl rfl rfl rfl <| s_val rfl rfl rfl rfl <| s_nil <| s_cond_t rfl <| s_seq <| s_region ?_
       iterate 8 refine s_val rfl rfl rfl rfl ?_
       iterate 7 refine s_no rfl rfl rfl ?_
       refine s_val rfl rfl rfl rfl <| s_val rfl rfl rfl rfl <| s_nil <| s_ret ?_
       exact ⟨.inr rfl, _, rfl, rfl⟩
      ·skip
       iterate 3 refine s_val rfl rfl rfl rfl ?_
       refine s_newL rfl rfl rfl rfl rfl ?_
       refine s_val rfl rfl rfl rfl ?_
       refine s_setL rfl (o_storeL rfl rfl rfl rfl rfl rfl rfl rfl (Nat.le_refl 3)) rfl ?_
       refine s_nil <| s_seq <| s_region ?_
       refine s_ret1 (new_ret) rfl rfl rfl rfl ?_
       rintro _ h4 ⟨rfl, hS4, e4, n4⟩
       refine s_val rfl rfl rfl rfl <| s_nil <| s_seq <| s_seq <| s_region <| s_val rfl rfl rfl rfl <| s_val rfl rfl rfl rfl <| s_nil <| s_cond_f rfl <| s_skip <| s_seq <| s_region <| s_val rfl rfl rfl rfl ?_
       refine s_val rfl (o_loadL rfl rfl rfl rfl (by rw [agg_put _ (agg_len _)]; exact agg_take _) (agg_zero _)) rfl rfl ?_
       refine s_newMap rfl rfl rfl rfl ?_
       refine s_ret1 (node_ret F kF sF (s := h3.next) (S := store0) (m := []) (mp := h4.next) ⟨hS4.ext (Ext.alloc ..), if_pos rfl, fun h5 => by simp [At.own, AV.own] at h5; omega, Nat.lt_succ_self _⟩ made0 (by show 0 + F.size ≤ _; omega)) rfl rfl rfl rfl ?_
       rintro _ h5 ⟨rfl, p5, B5, F5⟩
       refine s_val rfl rfl rfl rfl <| s_nil <| s_seq ?_
       obtain ⟨M5, a5, g5⟩ := build_made F kF (made0 (K := kindOf)) (by show 0 + F.size ≤ _; omega)
       have l5 : (store0.build [] F).1.nodes.length ≤ 0 + F.size := g5.most
       refine s_region <| s_val rfl rfl rfl rfl ?_
       refine s_val rfl (o_loadL rfl rfl rfl rfl (by rw [agg_put _ (agg_len _)]; exact agg_take _) (agg_zero _)) rfl rfl ?_
       refine s_newMap rfl rfl rfl rfl ?_
       refine s_ret1 (node_ret X kX sX (s := h3.next) (S := (store0.build [] F).1) (m := []) (mp := h5.next) ⟨B5.hS.ext (Ext.alloc ..), if_pos rfl, fun h6 => by have := B5.hS.toRows4.olt _ h6; omega, Nat.lt_succ_self _⟩ M5.map (by omega)) rfl rfl rfl rfl ?_
       rintro _ h6 ⟨rfl, p6, B6, F6⟩
       refine s_val rfl rfl rfl rfl <| s_nil <| s_seq ?_
       obtain ⟨M6, a6, g6⟩ := build_made X kX M5.map (by omega)
       have l6 := g6.most
       have l6' := g6.le
       refine s_region <| s_val rfl rfl rfl rfl ?_
       refine s_ret1 (var_ret B6.hS (by omega)) rfl rfl rfl rfl ?_
       rintro _ h7 ⟨rfl, p7, hS7, F7⟩
       refine s_val rfl rfl rfl rfl <| s_nil <| s_seq <| s_region ?_
       iterate 3 refine s_val rfl rfl rfl rfl ?_
       refine s_ret1 (arrow_ret hS7 (by rw [add_len]; omega) (by rw [add_len]; omega) (by rw [add_len]; omega)) rfl rfl rfl rfl ?_
       rintro _ h8 ⟨rfl, p8, hS8, F8⟩
       iterate 5 refine s_val rfl rfl rfl rfl ?_
       refine s_nil <| s_seq <| s_region ?_
       iterate 3 refine s_val rfl rfl rfl rfl ?_
       refine s_ret1 (unify_ret (k := 2 ^ 25) (S := (use4 F X).S) (S' := S) hS8 hU.made.wf hU.a hU.c (Nat.le_refl _) hK.hu) rfl (c_val rfl rfl rfl (args3 rfl rfl rfl rfl (show _ = some (vint (use4 F X).c) from congrArg some (congrArg (fun n : Nat => vint n) add_len)) rfl)) rfl rfl ?_
       rintro _ h9 ⟨rfl, ok9, F9⟩
       refine s_val rfl rfl rfl rfl <| s_nil <| s_seq <| s_seq <| s_region <| s_val rfl rfl rfl rfl <| s_val rfl rfl rfl rfl <| s_nil <| s_cond_t rfl <| s_seq <| s_region ?_
       iterate 4 refine s_val rfl rfl rfl rfl ?_
       refine s_no rfl rfl rfl <| s_no rfl rfl rfl ?_
       iterate 11 refine s_val rfl rfl rfl rfl ?_
       refine s_nil <| s_ret ?_
       exact ⟨.inr rfl, _, rfl, rfl⟩
      ·exact absurd rfl he0
     ·skip
      iterate 3 refine s_val rfl rfl rfl rfl ?_
      refine s_newL rfl rfl rfl rfl rfl ?_
      refine s_val rfl rfl rfl rfl ?_
      refine s_setL rfl (o_storeL rfl rfl rfl rfl rfl rfl rfl rfl (Nat.le_refl 3)) rfl ?_
      refine s_nil <| s_seq <| s_region ?_
      refine s_ret1 (new_ret) rfl rfl rfl rfl ?_
      rintro _ h4 ⟨rfl, hS4, e4, n4⟩
      refine s_val rfl rfl rfl rfl <| s_nil <| s_seq <| s_seq <| s_region <| s_val rfl rfl rfl rfl <| s_val rfl rfl rfl rfl <| s_nil <| s_cond_f rfl <| s_skip <| s_seq <| s_region <| s_val rfl rfl rfl rfl ?_
      refine s_val rfl (o_loadL rfl rfl rfl rfl (by rw [agg_put _ (agg_len _)]; exact agg_take _) (agg_zero _)) rfl rfl ?_
      refine s_newMap rfl rfl rfl rfl ?_
      refine s_ret1 (node_ret F kF sF (s := h3.next) (S := store0) (m := []) (mp := h4.next) ⟨hS4.ext (Ext.alloc ..), if_pos rfl, fun h5 => by simp [At.own, AV.own] at h5; omega, Nat.lt_succ_self _⟩ made0 (by show 0 + F.size ≤ _; omega)) rfl rfl rfl rfl ?_
      rintro _ h5 ⟨rfl, p5, B5, F5⟩
      refine s_val rfl rfl rfl rfl <| s_nil <| s_seq ?_
      obtain ⟨M5, a5, g5⟩ := build_made F kF (made0 (K := kindOf)) (by show 0 + F.size ≤ _; omega)
      have l5 : (store0.build [] F).1.nodes.length ≤ 0 + F.size := g5.most
      refine s_region <| s_val rfl rfl rfl rfl ?_
      refine s_val rfl (o_loadL rfl rfl rfl rfl (by rw [agg_put _ (agg_len _)]; exact agg_take _) (agg_zero _)) rfl rfl ?_
      refine s_newMap rfl rfl rfl rfl ?_
      refine s_ret1 (node_ret X kX sX (s := h3.next) (S := (store0.build [] F).1) (m := []) (mp := h5.next) ⟨B5.hS.ext (Ext.alloc ..), if_pos rfl, fun h6 => by have := B5.hS.toRows4.olt _ h6; omega, Nat.lt_succ_self _⟩ M5.map (by omega)) rfl rfl rfl rfl ?_
      rintro _ h6 ⟨rfl, p6, B6, F6⟩
      refine s_val rfl rfl rfl rfl <| s_nil <| s_seq ?_
      obtain ⟨M6, a6, g6⟩ := build_made X kX M5.map (by omega)
      have l6 := g6.most
      have l6' := g6.le
      refine s_region <| s_val rfl rfl rfl rfl ?_
      refine s_ret1 (var_ret B6.hS (by omega)) rfl rfl rfl rfl ?_
      rintro _ h7 ⟨rfl, p7, hS7, F7⟩
      refine s_val rfl rfl rfl rfl <| s_nil <| s_seq <| s_region ?_
      iterate 3 refine s_val rfl rfl rfl rfl ?_
      refine s_ret1 (arrow_ret hS7 (by rw [add_len]; omega) (by rw [add_len]; omega) (by rw [add_len]; omega)) rfl rfl rfl rfl ?_
      rintro _ h8 ⟨rfl, p8, hS8, F8⟩
      iterate 5 refine s_val rfl rfl rfl rfl ?_
      refine s_nil <| s_seq <| s_region ?_
      iterate 3 refine s_val rfl rfl rfl rfl ?_
      refine s_ret1 (unify_ret (k := 2 ^ 25) (S := (use4 F X).S) (S' := S) hS8 hU.made.wf hU.a hU.c (Nat.le_refl _) hK.hu) rfl (c_val rfl rfl rfl (args3 rfl rfl rfl rfl (show _ = some (vint (use4 F X).c) from congrArg some (congrArg (fun n : Nat => vint n) add_len)) rfl)) rfl rfl ?_
      rintro _ h9 ⟨rfl, ok9, F9⟩
      refine s_val rfl rfl rfl rfl <| s_nil <| s_seq <| s_seq <| s_region <| s_val rfl rfl rfl rfl <| s_val rfl rfl rfl rfl <| s_nil <| s_cond_f rfl <| s_skip <| s_seq <| s_seq ?_
      obtain ⟨hS9, hw9, hn9⟩ := ok9 rfl
      have hUn := hK.un rfl
      have hSl0 := hSl rfl
      have hnok0 := hnok rfl
      refine s_region ?_
      iterate 3 refine s_val rfl rfl rfl rfl ?_
      refine s_nil <| s_cond_t rfl <| s_seq <| s_region ?_
      iterate 6 refine s_val rfl rfl rfl rfl ?_
      refine s_ret1 (size_ret hS9 hw9 hnok0 (n := (use4 F X).a) (by rw [hSl0]; exact hU.a) hUn.a) rfl rfl rfl rfl ?_
      rintro _ h10 ⟨rfl, e10⟩
      by_cases hTa : 300 < Ta.size
      ·rw [show size301 Ta.size = 301 by unfold size301; rw [if_neg (by omega)]]
       refine s_val rfl rfl rfl rfl <| s_val rfl rfl rfl rfl ?_
       iterate 4 refine s_no rfl rfl rfl ?_
       iterate 3 refine s_val rfl rfl rfl rfl ?_
       refine s_nil <| s_ret ?_
       exact ⟨.inr rfl, _, rfl, rfl⟩
      ·rw [show size301 Ta.size = Ta.size by unfold size301; rw [if_pos (by omega)]]
       refine s_val rfl (o_eq rfl (congrArg vbool (decide_eq_false (show ¬ ((Ta.size : Nat) : Int) > 300 by omega)))) rfl rfl ?_
       iterate 3 refine s_val rfl rfl rfl rfl ?_
       refine s_ret1 (size_ret (hS9.ext e10) hw9 hnok0 (n := (use4 F X).b) (by rw [hSl0]; exact hU.b) hUn.b) rfl rfl rfl rfl ?_
       rintro _ h11 ⟨rfl, e11⟩
       rw [show size301 Tb.size = 301 by unfold size301; rw [if_neg (by omega)]]
       iterate 4 refine s_val rfl rfl rfl rfl ?_
       refine s_nil <| s_ret ?_
       exact ⟨.inr rfl, _, rfl, rfl⟩
     ·skip
      iterate 3 refine s_val rfl rfl rfl rfl ?_
      refine s_newL rfl rfl rfl rfl rfl ?_
      refine s_val rfl rfl rfl rfl ?_
      refine s_setL rfl (o_storeL rfl rfl rfl rfl rfl rfl rfl rfl (Nat.le_refl 3)) rfl ?_
      refine s_nil <| s_seq <| s_region ?_
      refine s_ret1 (new_ret) rfl rfl rfl rfl ?_
      rintro _ h4 ⟨rfl, hS4, e4, n4⟩
      refine s_val rfl rfl rfl rfl <| s_nil <| s_seq <| s_seq <| s_region <| s_val rfl rfl rfl rfl <| s_val rfl rfl rfl rfl <| s_nil <| s_cond_f rfl <| s_skip <| s_seq <| s_region <| s_val rfl rfl rfl rfl ?_
      refine s_val rfl (o_loadL rfl rfl rfl rfl (by rw [agg_put _ (agg_len _)]; exact agg_take _) (agg_zero _)) rfl rfl ?_
      refine s_newMap rfl rfl rfl rfl ?_
      refine s_ret1 (node_ret F kF sF (s := h3.next) (S := store0) (m := []) (mp := h4.next) ⟨hS4.ext (Ext.alloc ..), if_pos rfl, fun h5 => by simp [At.own, AV.own] at h5; omega, Nat.lt_succ_self _⟩ made0 (by show 0 + F.size ≤ _; omega)) rfl rfl rfl rfl ?_
      rintro _ h5 ⟨rfl, p5, B5, F5⟩
      refine s_val rfl rfl rfl rfl <| s_nil <| s_seq ?_
      obtain ⟨M5, a5, g5⟩ := build_made F kF (made0 (K := kindOf)) (by show 0 + F.size ≤ _; omega)
      have l5 : (store0.build [] F).1.nodes.length ≤ 0 + F.size := g5.most
      refine s_region <| s_val rfl rfl rfl rfl ?_
      refine s_val rfl (o_loadL rfl rfl rfl rfl (by rw [agg_put _ (agg_len _)]; exact agg_take _) (agg_zero _)) rfl rfl ?_
      refine s_newMap rfl rfl rfl rfl ?_
      refine s_ret1 (node_ret X kX sX (s := h3.next) (S := (store0.build [] F).1) (m := []) (mp := h5.next) ⟨B5.hS.ext (Ext.alloc ..), if_pos rfl, fun h6 => by have := B5.hS.toRows4.olt _ h6; omega, Nat.lt_succ_self _⟩ M5.map (by omega)) rfl rfl rfl rfl ?_
      rintro _ h6 ⟨rfl, p6, B6, F6⟩
      refine s_val rfl rfl rfl rfl <| s_nil <| s_seq ?_
      obtain ⟨M6, a6, g6⟩ := build_made X kX M5.map (by omega)
      have l6 := g6.most
      have l6' := g6.le
      refine s_region <| s_val rfl rfl rfl rfl ?_
      refine s_ret1 (var_ret B6.hS (by omega)) rfl rfl rfl rfl ?_
      rintro _ h7 ⟨rfl, p7, hS7, F7⟩
      refine s_val rfl rfl rfl rfl <| s_nil <| s_seq <| s_region ?_
      iterate 3 refine s_val rfl rfl rfl rfl ?_
      refine s_ret1 (arrow_ret hS7 (by rw [add_len]; omega) (by rw [add_len]; omega) (by rw [add_len]; omega)) rfl rfl rfl rfl ?_
      rintro _ h8 ⟨rfl, p8, hS8, F8⟩
      iterate 5 refine s_val rfl rfl rfl rfl ?_
      refine s_nil <| s_seq <| s_region ?_
      iterate 3 refine s_val rfl rfl rfl rfl ?_
      refine s_ret1 (unify_ret (k := 2 ^ 25) (S := (use4 F X).S) (S' := S) hS8 hU.made.wf hU.a hU.c (Nat.le_refl _) hK.hu) rfl (c_val rfl rfl rfl (args3 rfl rfl rfl rfl (show _ = some (vint (use4 F X).c) from congrArg some (congrArg (fun n : Nat => vint n) add_len)) rfl)) rfl rfl ?_
      rintro _ h9 ⟨rfl, ok9, F9⟩
      refine s_val rfl rfl rfl rfl <| s_nil <| s_seq <| s_seq <| s_region <| s_val rfl rfl rfl rfl <| s_val rfl rfl rfl rfl <| s_nil <| s_cond_f rfl <| s_skip <| s_seq <| s_seq ?_
      obtain ⟨hS9, hw9, hn9⟩ := ok9 rfl
      have hUn := hK.un rfl
      have hSl0 := hSl rfl
      have hnok0 := hnok rfl
      refine s_region ?_
      iterate 3 refine s_val rfl rfl rfl rfl ?_
      refine s_nil <| s_cond_f rfl <| s_skip <| s_seq ?_
      have hdens : Dens S [(use4 F X).r] [Tr] := by
       refine ⟨rfl, fun i hi => ?_⟩
       have h0 : i = 0 := by
        have : i < 1 := hi
        omega
       subst h0
       exact ⟨by show (use4 F X).r < _; rw [hSl0]; exact hU.r, hUn.r⟩
      refine s_region <| s_val rfl rfl rfl rfl <| s_val rfl rfl rfl rfl ?_
      refine s_newCells rfl rfl rfl rfl ?_
      refine s_ret1 (types_ret (hS9.ext (Ext.newC ..)) hw9 hnok0 (v := .msl h9.next 0 1 0 1) (az := [(use4 F X).r]) (.row (l := [(use4 F X).r]) (if_pos rfl) rfl) ⟨rfl, rfl⟩ (fun id hid => by have h12 : id = h9.next := List.mem_singleton.mp hid; rw [h12]; exact Nat.lt_succ_self _) (Nat.le_of_ble_eq_true rfl) (ts := [Tr]) hdens (fun t ht => by rw [List.mem_singleton.mp ht]; exact hsm)) rfl rfl rfl rfl ?_
      rintro _ h12 ⟨rfl, e12⟩
      rw [show rowD ([Tr].isEmpty) [Tr].length (Ty.cellsL ([Tr].map (Ty.rename (idx (addVs [] (Ty.varsL [Tr])))))) = rowD (false && [Tr.close].isEmpty) [Tr.close].length (Ty.cellsL [Tr.close]) from by
       have hv : Ty.varsL [Tr] = Tr.vars := by show Tr.vars ++ [] = Tr.vars; rw [List.append_nil]
       rw [hv]; rfl]
      iterate 5 refine s_val rfl rfl rfl rfl ?_
      refine s_nil <| s_seq <| s_seq <| s_region ?_
      iterate 4 refine s_val rfl rfl rfl rfl ?_
      refine s_val rfl (o_lenV rfl rfl (args1 rfl rfl) rfl (rowD_kind (b := false)) (rowD_len (b := false) (az := [Tr.close]))) rfl rfl ?_
      refine s_val rfl rfl rfl rfl <| s_val rfl rfl rfl rfl <| s_nil <| s_cond_f rfl <| s_skip <| s_seq <| s_region <| s_val rfl rfl rfl rfl ?_
      refine s_val rfl (o_indexV rfl rfl rfl (rowD_at (b := false) (az := [Tr.close]) (i := 0) (Nat.lt_succ_self _))) rfl rfl ?_
      refine s_val rfl (o_loadV rfl rfl head_load) rfl rfl ?_
      refine s_ret1 (hK.hs rfl hsm _) rfl rfl rfl rfl ?_
      rintro _ h13 ⟨rfl, rfl⟩
      iterate 5 refine s_val rfl rfl rfl rfl ?_
      refine s_nil <| s_seq <| s_region <| s_val rfl rfl rfl rfl <| s_val rfl rfl rfl rfl ?_
      refine s_val rfl (o_eq rfl (congrArg vbool (show (s == s) = true by simp))) rfl rfl ?_
      refine s_val rfl rfl rfl rfl <| s_nil <| s_ret ?_
      exact ⟨.inr rfl, _, rfl, rfl⟩
    ·rw [hcX]
     iterate 3 refine s_val rfl rfl rfl rfl ?_
     refine s_setL rfl (o_storeL rfl rfl rfl rfl (agg_len _) rfl (Ty.cells_isCell _) rfl (by rw [agg_len, agg_len]; exact Nat.le_refl _)) rfl ?_
     refine s_val rfl rfl rfl rfl <| s_nil <| s_seq <| s_seq <| s_region ?_
     iterate 6 refine s_val rfl rfl rfl rfl ?_
     refine s_nil <| s_cond_t rfl <| s_seq <| s_region <| s_val rfl rfl rfl rfl <| s_nil <| s_ret ?_
     exact ⟨.inr rfl, _, rfl, rfl⟩
   ·rw [hcF]
    iterate 3 refine s_val rfl rfl rfl rfl ?_
    refine s_setL rfl (o_storeL rfl rfl rfl rfl (agg_len _) rfl (Ty.cells_isCell _) rfl (by rw [agg_len, agg_len]; exact Nat.le_refl _)) rfl ?_
    refine s_val rfl rfl rfl rfl <| s_nil <| s_seq <| s_region ?_
    refine s_val rfl (o_loadL rfl rfl rfl rfl (agg_take _) (agg_zero _)) rfl rfl ?_
    refine s_ret1 (close_ret kindOk sX0 fX.size) rfl rfl rfl rfl ?_
    rintro _ h2 ⟨rfl, e2⟩
    rcases closeA_cases X0 with ⟨hrX, hcX⟩ | ⟨hrX, hcX⟩
    ·rw [hcX]
     iterate 3 refine s_val rfl rfl rfl rfl ?_
     refine s_setL rfl (o_storeL rfl rfl rfl rfl (agg_len _) rfl (Ty.cells_isCell _) rfl (by rw [agg_len, agg_len]; exact Nat.le_refl _)) rfl ?_
     refine s_val rfl rfl rfl rfl <| s_nil <| s_seq <| s_seq <| s_region ?_
     iterate 3 refine s_val rfl rfl rfl rfl ?_
     refine s_no rfl rfl rfl <| s_no rfl rfl rfl <| s_val rfl rfl rfl rfl <| s_nil <| s_cond_t rfl <| s_seq <| s_region <| s_val rfl rfl rfl rfl <| s_nil <| s_ret ?_
     exact ⟨.inr rfl, _, rfl, rfl⟩
    ·rw [hcX]
     iterate 3 refine s_val rfl rfl rfl rfl ?_
     refine s_setL rfl (o_storeL rfl rfl rfl rfl (agg_len _) rfl (Ty.cells_isCell _) rfl (by rw [agg_len, agg_len]; exact Nat.le_refl _)) rfl ?_
     refine s_val rfl rfl rfl rfl <| s_nil <| s_seq <| s_seq <| s_region ?_
     iterate 3 refine s_val rfl rfl rfl rfl ?_
     refine s_no rfl rfl rfl <| s_no rfl rfl rfl <| s_val rfl rfl rfl rfl <| s_nil <| s_cond_t rfl <| s_seq <| s_region <| s_val rfl rfl rfl rfl <| s_nil <| s_ret ?_
     exact ⟨.inr rfl, _, rfl, rfl⟩
end Go.Dv.Us
/- A reading of a type is deep data. -/
namespace Go.Dv.Us
open Go.Dv.K Go.Proofs Go.Proofs.YtanhfhjoeoinoaaGreatDoor Go.ChangeShapes Go.WideShapes Go.ChangeAt Go.RowKit Go.Joins Go.Deep
/-- The blocks of cells. -/
def Blocks (w : World) (b : Nat) : Prop := (bsize w b).isSome = true
theorem cell_block {w : World} {a : Addr} {v : Value} (h : w.cell? a = some v) : Blocks w a.block ∧ a.spot = none := by
 unfold World.cell? at h
 unfold Blocks bsize
 split at h
 ·rename_i c _ _ he
  rw [he]
  refine ⟨rfl, ?_⟩
  cases hs : a.spot with
  | none => rfl
  | some x => rw [hs] at h; cases h
 ·cases h
/-- Cells that read as deep data. -/
def Rds (w : World) (ds : List DV) (vs : List Value) : Prop := vs.length = ds.length ∧ ∀ (i : Nat) x y, ds[i]? = some x → vs[i]? = some y → DRel (Blocks w) w x y
theorem Rds.cons {w : World} {d : DV} {ds : List DV} {v : Value} {vs : List Value} (h : DRel (Blocks w) w d v) (r : Rds w ds vs) : Rds w (d :: ds) (v :: vs) := by
 refine ⟨by simp [r.1], fun i x y hx hy => ?_⟩
 cases i with
 | zero =>
  simp only [List.getElem?_cons_zero, Option.some.injEq] at hx hy
  rw [← hx, ← hy]; exact h
 | succ i =>
  simp only [List.getElem?_cons_succ] at hx hy
  exact r.2 i x y hx hy
theorem Rds.nil {w : World} : Rds w [] [] := ⟨rfl, fun i x y hx _ => by simp at hx⟩
/-- Where a row of types lies. -/
theorem rows_at : ∀ (az : List Ty) (i : Nat) x, (Ty.cellsL az)[i]? = some x → ∃ j r, i = 4 * j + r ∧ r < 4 ∧ j < az.length ∧ (az.getD j default).cells[r]? = some x
 | [], i, x, h => by simp [Ty.cellsL] at h
 | t :: az, i, x, h => by
  unfold Ty.cellsL at h
  by_cases hi : i < 4
  ·rw [List.getElem?_append_left (by rw [Ty.cells_length]; exact hi)] at h
   exact ⟨0, i, by omega, hi, by simp, h⟩
  ·rw [List.getElem?_append_right (by rw [Ty.cells_length]; omega), Ty.cells_length] at h
   obtain ⟨j, r, h1, h2, h3, h4⟩ := rows_at az (i - 4) x h
   exact ⟨j + 1, r, by omega, h2, by simpa using h3, by simpa using h4⟩
theorem Fine.mk' {k n : Int} {s : List UInt8} {b : Bool} {az : List Ty} : Ty.size (.mk k n s b az) = 1 + Ty.sizeL az := rfl
/-- A type with its weight. -/
structure Told1 (w : World) (N : Nat) (t : Ty) (cs : List Value) : Prop where
 rd : Rds w t.cells cs
 size : t.size ≤ N
 all : ∀ q ∈ t.pre, q.name.length ≤ N ∧ q.args.length ≤ N
theorem preL_mem : ∀ {az : List Ty} {q : Ty}, q ∈ Ty.preL az → ∃ a ∈ az, q ∈ a.pre
 | [], q, h => by simp [Ty.preL] at h
 | t :: az, q, h => by
  unfold Ty.preL at h
  rcases List.mem_append.1 h with h | h
  ·exact ⟨t, by simp, h⟩
  ·obtain ⟨a, h1, h2⟩ := preL_mem h
   exact ⟨a, by simp [h1], h2⟩
section
variable {H : Type} {enc : TypeId × Value → H} {w : World}
theorem bulk_map (D : Nat → DataW H) (n : Nat) : ∀ i, i < n → Rows.uptoBulk (D i) ≤ Rows.uptoBulkAll ((List.range n).map D) := fun i hi => by
 have : D i ∈ (List.range n).map D := List.mem_map.2 ⟨i, List.mem_range.2 hi, rfl⟩
 generalize (List.range n).map D = l at this
 induction l with
 | nil => cases this
 | cons x r ih =>
  simp only [Rows.uptoBulkAll]
  rcases List.mem_cons.1 this with h | h
  ·rw [h]; omega
  ·have := ih h; omega
theorem bulk_pos (d : DataW H) : 1 ≤ Rows.uptoBulk d := by
 cases d with
 | lit l => cases l <;> simp [Rows.uptoBulk]
 | _ => simp [Rows.uptoBulk]
theorem bulk_sizes (D : Nat → DataW H) : ∀ (l : List Nat) (az : List Ty), az.length = l.length → (∀ i x, l[i]? = some x → (az.getD i default).size ≤ Rows.uptoBulk (D x)) → Ty.sizeL az ≤ Rows.uptoBulkAll (l.map D) ∧ l.length ≤ Rows.uptoBulkAll (l.map D)
 | [], [], _, _ => ⟨Nat.zero_le _, Nat.zero_le _⟩
 | x :: l, t :: az, hl, h => by
  have h0 := h 0 x rfl
  obtain ⟨h1, h2⟩ := bulk_sizes D l az (by simpa using hl) fun i y hy => h (i + 1) y (by simpa using hy)
  have h3 := bulk_pos (D x)
  simp only [List.map_cons, Rows.uptoBulkAll, Ty.sizeL, List.length_cons]
  have h4 : t.size ≤ Rows.uptoBulk (D x) := h0
  omega
 | [], t :: az, hl, _ => by simp at hl
 | x :: l, [], hl, _ => by simp at hl
theorem add_zero' (a : Addr) : a.add 0 = a := rfl
theorem add_none {a : Addr} (h : a.spot = none) {n : Nat} : a.add n = ⟨a.block, a.off + n, none⟩ := by
 unfold Addr.add
 split
 ·rename_i h0
  subst h0
  cases a
  simp only at h
  rw [h]; rfl
 ·rfl
/-- WHAT IS READ IS A TYPE. -/
theorem told1 : ∀ (N : Nat) {fuel : Nat} {cs : List Value} {d : DataW H} {ps : List MemPlace}, Rows.uptoBulk d ≤ N → DataW.trod enc Tryz.prog w 0 (fun _ => true) true fuel 40 cs = some (d, ps) → ∃ t : Ty, Told1 w (Rows.uptoBulk d) t cs
 | 0, _, _, d, _, hN, _ => absurd (bulk_pos d) (by omega)
 | N + 1, fuel, cs, d, ps, hN, h => by
  obtain ⟨y0, y1, y2, y3, n, hx, hl, h0, h1, h2, h3⟩ := trod_struct4 Tryz.underlying40 h
  have c40 : Tryz.prog.cellsOf 40 = 4 := by kernel_rfl
  have c3 : Tryz.prog.cellsOf 3 = 1 := by kernel_rfl
  have c9 : Tryz.prog.cellsOf 9 = 1 := by kernel_rfl
  have c33 : Tryz.prog.cellsOf 33 = 1 := by kernel_rfl
  rw [c40] at hl
  rw [c3] at h0 h1
  rw [c9] at h2
  rw [c33] at h3
  match cs, hl with
  | [v0, v1, v2, v3], _ =>
  obtain ⟨k, e0, rfl, _⟩ := DataW.trod_int Tryz.underlying3 h0
  obtain ⟨m, e1, rfl, _⟩ := DataW.trod_int Tryz.underlying3 h1
  obtain ⟨s, e2, rfl, _⟩ := DataW.trod_string Tryz.underlying9 h2
  simp only [List.drop_zero, List.drop_succ_cons, List.take_succ_cons, List.take_zero, List.cons.injEq, and_true] at e0 e1 e2 h3
  subst e0 e1 e2
  simp only [Prod.mk.injEq] at hx
  obtain ⟨rfl, _⟩ := hx
  rcases open_slice Tryz.underlying33 h3 with ⟨e3, rfl⟩ | ⟨a, len, cap, mm, n', D, Pl, e3, hb, hle, hcap, hm, rfl, hel⟩
  ·simp only [List.cons.injEq, and_true] at e3
   subst e3
   refine ⟨.mk k m s.data.toList true [], ?_, ?_, ?_⟩
   ·exact Rds.cons (.int _ _) (Rds.cons (.int _ _) (Rds.cons (.str _) (Rds.cons .nilslice Rds.nil)))
   ·show 1 + 0 ≤ _
    exact bulk_pos _
   ·intro q hq
    simp only [Ty.pre, Ty.preL, List.mem_singleton] at hq
    subst hq
    simp only [Rows.uptoBulk, Rows.uptoBulkAll]
    exact ⟨by show s.data.toList.length ≤ _; omega, Nat.zero_le _⟩
  ·simp only [List.cons.injEq, and_true] at e3
   subst e3
   rw [c40] at hel
   simp only [if_true] at hm
   subst hm
   simp only [Rows.uptoBulk, Rows.uptoBulkAll] at hN ⊢
   have hex : ∀ i, i < len → ∃ cs' t, w.cells? 0 (a.add (i * 4)) 4 = some cs' ∧ Told1 w (Rows.uptoBulk (D i)) t cs' := fun i hi => by
    obtain ⟨cs', g1, g2⟩ := hel i (by omega)
    have := bulk_map D len i hi
    obtain ⟨t, ht⟩ := told1 N (by omega) g2
    exact ⟨cs', t, g1, ht⟩
   let T : Nat → Ty := fun i => if hi : i < len then Classical.choose (Classical.choose_spec (hex i hi)) else default
   have hT : ∀ i, i < len → ∃ cs', w.cells? 0 (a.add (i * 4)) 4 = some cs' ∧ Told1 w (Rows.uptoBulk (D i)) (T i) cs' := fun i hi => by
    have := Classical.choose_spec (Classical.choose_spec (hex i hi))
    refine ⟨_, this.1, ?_⟩
    show Told1 w _ (if hi : i < len then _ else _) _
    rw [dif_pos hi]
    exact this.2
   have hlen : ((List.range len).map T).length = len := by simp
   have hget : ∀ i, i < len → ((List.range len).map T).getD i default = T i := fun i hi => by
    simp [List.getD, hi]
   obtain ⟨z1, z2⟩ := bulk_sizes D (List.range len) ((List.range len).map T) (by simp) fun i x hx => by
    have hi : i < len := by
     rcases Nat.lt_or_ge i len with h | h
     ·exact h
     ·rw [List.getElem?_eq_none (by simpa using h)] at hx; cases hx
    have : x = i := by simpa [hi] using hx.symm
    subst this
    rw [hget x hi]
    obtain ⟨_, _, h5⟩ := hT x hi
    exact h5.size
   rw [List.length_range] at z2
   refine ⟨.mk k m s.data.toList false ((List.range len).map T), ?_, ?_, ?_⟩
   ·refine Rds.cons (.int _ _) (Rds.cons (.int _ _) (Rds.cons (.str _) (Rds.cons ?_ Rds.nil)))
    show DRel _ _ (.imm (Ty.cellsL ((List.range len).map T)) ((List.range len).map T).length) _
    rw [hlen]
    have hsp : 0 < len → Blocks w a.block ∧ a.spot = none := fun h0 => by
     obtain ⟨cs', g1, g2⟩ := hT 0 h0
     obtain ⟨_, l5, l6⟩ := World.cells?_some g1
     have h7 := l6 0 (by omega)
     rw [List.getElem?_eq_getElem (by omega)] at h7
     rw [Nat.zero_mul, add_zero', add_zero'] at h7
     exact cell_block h7
    have hcell : ∀ (i : Nat) x, (Ty.cellsL ((List.range len).map T))[i]? = some x → (Blocks w a.block ∧ a.spot = none) ∧ ∃ v, w.cell? ⟨a.block, a.off + i, none⟩ = some v ∧ DRel (Blocks w) w x v := fun i x hx => by
     obtain ⟨j, r, rfl, hr, hj, hc⟩ := rows_at _ i x hx
     rw [hlen] at hj
     rw [hget j hj] at hc
     obtain ⟨cs', g1, g2⟩ := hT j hj
     obtain ⟨_, l5, l6⟩ := World.cells?_some g1
     have hv : r < cs'.length := by rw [l5]; exact hr
     have hs := hsp (Nat.lt_of_le_of_lt (Nat.zero_le _) hj)
     refine ⟨hs, cs'[r], ?_, g2.rd.2 r x _ hc (List.getElem?_eq_getElem hv)⟩
     have := l6 r hr
     rw [List.getElem?_eq_getElem hv, add_none hs.2, add_none (by rfl), Nat.add_assoc, Nat.mul_comm j 4] at this
     exact this
    refine .imm _ _ a mm (fun i => (w.cell? ⟨a.block, a.off + i, none⟩).getD undef) hle (fun hne => ?_) (fun i x hx => ?_) (fun i x hx => ?_)
    ·cases hcs : Ty.cellsL ((List.range len).map T) with
     | nil => exact absurd hcs hne
     | cons x r => exact (hcell 0 x (by rw [hcs]; rfl)).1
    ·obtain ⟨_, v, hv, _⟩ := hcell i x hx
     rw [hv]; rfl
    ·obtain ⟨_, v, hv, hd⟩ := hcell i x hx
     rw [hv]; exact hd
   ·show 1 + Ty.sizeL _ ≤ _
    omega
   ·intro q hq
    unfold Ty.pre at hq
    rcases List.mem_cons.1 hq with rfl | hq
    ·refine ⟨?_, ?_⟩
     ·show s.data.toList.length ≤ _
      omega
     ·show ((List.range len).map T).length ≤ _
      rw [hlen]
      omega
    ·obtain ⟨t, ht, hq⟩ := preL_mem hq
     obtain ⟨j, hj, rfl⟩ := List.mem_map.1 ht
     rw [List.mem_range] at hj
     obtain ⟨_, _, h5⟩ := hT j hj
     have h6 := h5.all q hq
     have h7 := bulk_map D len j hj
     exact ⟨by omega, by omega⟩
end
end Go.Dv.Us
/- THE ROW: from what the abstract machine computes to the statement. -/
namespace Go.Proofs.YtanhfhjoeoinoaaGreatDoor.uses
open Go.ChangeShapes Go.WideShapes Go.ChangeAt Go.RowKit Go.Dv Go.Dv.K Go.Dv.Us
theorem own : ownKnob Tryz.prog.godebug = none := by kernel_rfl
theorem laidOut : laidOutB Tryz.prog = true := by kernel_rfl
theorem fine_of {w : World} {N : Nat} {t : Ty} {cs : List Value} (h : Told1 w N t cs) (hN : N ≤ 1048576) : Fine t :=
 ⟨fun q hq => by have := h.all q hq; exact ⟨Nat.le_trans (Nat.le_trans this.1 hN) (by decide), Nat.le_trans (Nat.le_trans this.2 hN) (by decide)⟩, Nat.le_trans (Nat.le_trans h.size hN) (by decide)⟩
theorem urel_of {w : World} {N : Nat} {t : Ty} {cs : Array Value} (h : Told1 w N t cs.toList) : URel (fun _ _ => none) (Blocks w) w t.agg (.agg cs) :=
 .d _ _ (.agg _ cs.toList h.rd.1 h.rd.2)
theorem kept {W W' : World} (ho : W'.os = W.os) (hp : W'.output = W.output) (hb : ∀ b, b < W.heap.size → W'.heap[b]? = W.heap[b]?) (may : MemPlace → Prop) : W.keptBut W' may := by
 refine ⟨ho, hp, fun i hi => ?_⟩
 have h := (World.keptBut_refl W may).2.2 i hi
 rw [hb i hi]
 exact h
theorem bound {H : Type} {l : List (DataW H)} (hk : Rows.uptoSmall H l = true) : Rows.uptoBulkAll l ≤ 1048576 := of_decide_eq_true hk
set_option maxRecDepth 100000 in
/-- WHAT THE WALKS GIVE. -/
theorem contract (H : Type) (enc : TypeId × Value → H) (W : World) (base : Nat) (args : Array Value) (ds gs : List (DataW H)) (before : List MemPlace)
  (hval : ∀ (j : Nat) t v, Tryz.f5.params[j]? = some t → args[j]? = some v → Value.okWide Tryz.prog W .any base t v)
  (hW : DataW.Whole enc Tryz.prog Tryz.f5.params.toList Rows.inferUsesSpec.vars false W args.toList ds gs before) (hk : Rows.uptoSmall H (ds ++ gs) = true) :
  Calls Tryz.prog 5 args W fun e W' => ∃ v, e = .returned v ∧ Rows.inferUsesSpec.post enc Tryz.prog Tryz.f5 false true false false W args v W' := by
 have hW' := hW
 obtain ⟨p, q, hA0, hV, rfl, hfz, hnd⟩ := hW
 have hA : DataW.TrodAll enc Tryz.prog W 0 (fun _ => true) true Tryz.f5.params.toList args.toList ds p := hA0
 rw [Tryz.params5] at hA hval
 obtain ⟨v0, vs0, d0, ds0, p0, q0, hargs, rfl, rfl, h0, r0⟩ := trodAll_cons hA
 obtain ⟨v1, vs1, d1, ds1, p1, q1, rfl, rfl, rfl, h1, r1⟩ := trodAll_cons r0
 obtain ⟨rfl, rfl, rfl⟩ := trodAll_nil r1
 obtain rfl : args = #[v0, v1] := by cases args; simp_all
 obtain ⟨rfl, rfl⟩ := trodVars_none hV
 have k0 : Value.okWide Tryz.prog W .any base 40 v0 := hval 0 40 v0 rfl rfl
 have k1 : Value.okWide Tryz.prog W .any base 40 v1 := hval 1 40 v1 rfl rfl
 obtain ⟨c0, rfl, _⟩ := okWide_struct Tryz.underlying40 k0
 obtain ⟨c1, rfl, _⟩ := okWide_struct Tryz.underlying40 k1
 have hlt : ∀ x ∈ (p0 ++ (p1 ++ [])) ++ [], x.block < W.heap.size := hW'.lt
 have h0' := h0
 have h1' := h1
 obtain ⟨n0, g0⟩ := h0
 obtain ⟨n1, g1⟩ := h1
 obtain ⟨F, hF⟩ := told1 _ (Nat.le_refl _) g0
 obtain ⟨X, hX⟩ := told1 _ (Nat.le_refl _) g1
 have hb : Rows.uptoBulk d0 ≤ 1048576 ∧ Rows.uptoBulk d1 ≤ 1048576 := by
  have h := bound hk
  generalize 1048576 = N at h
  simp only [List.append_nil, Rows.uptoBulkAll] at h
  exact ⟨by omega, by omega⟩
 obtain ⟨v, h', hbig, rfl⟩ := uses_ret (fine_of hF hb.1) (fine_of hX hb.2) Hp.empty
 have hR : Rel (fun _ _ => none) (Blocks W) W ctx Hp.empty :=
  ⟨fun id o ho => (nomatch ho), fun id o _ _ _ ho => (nomatch ho), fun id o ho => (nomatch ho), fun _ _ _ => rfl, fun _ _ _ _ _ => rfl,
   fun _ _ _ hm => (nomatch hm), fun _ h => h, fun _ _ hg => (nomatch hg), fun id t ht => (nomatch ht), fun id o e ho => (nomatch ho)⟩
 have hU : URels (fun _ _ => none) (Blocks W) W [F.agg, X.agg] [.agg c0, .agg c1] := by
  refine ⟨rfl, fun i x y hx hy => ?_⟩
  match i, hx, hy with
  | 0, hx, hy => cases hx; cases hy; exact urel_of hF
  | 1, hx, hy => cases hx; cases hy; exact urel_of hX
 refine callsIn_wide.1 ((Big.snd sound hbig).2 _ _ W [.agg c0, .agg c1] _ hR hU fun m' I' w' r hR' hv' st => ?_)
 have hold : ∀ b, b < W.heap.size → w'.heap[b]? = W.heap[b]? := fun b hb => st.frame b hb (by rintro ⟨id, o, ho, _⟩; cases ho) (notLoc_empty _ b)
 obtain rfl : r = .bool true := by
  cases hv' with
  | d _ _ h => cases h; rfl
 have hbelow : Below W.heap.size W w' := ⟨st.wle.os, st.wle.tape, st.wle.output, st.wle.size, hold⟩
 refine ⟨_, rfl, _, _, _, [], p0 ++ (p1 ++ []), [], hW', ?_, ?_, ?_, kept st.wle.os st.wle.output hold _, fun h => by cases h⟩
 ·exact trodAll_cons_mk (shut_bool Tryz.underlying4 _) trodAll_mk0
 ·show DataW.TrodAll enc Tryz.prog w' 0 _ true Tryz.f5.params.toList _ _ _
  rw [Tryz.params5]
  refine trodAll_cons_mk (Below.trod laidOut (by kernel_rfl) (of_decide_eq_true (by kernel_rfl)) h0' hbelow fun x hx => hlt x (by simp [hx])) (trodAll_cons_mk (Below.trod laidOut (by kernel_rfl) (of_decide_eq_true (by kernel_rfl)) h1' hbelow fun x hx => hlt x (by simp [hx])) trodAll_mk0)
 ·exact rfl
end Go.Proofs.YtanhfhjoeoinoaaGreatDoor.uses
