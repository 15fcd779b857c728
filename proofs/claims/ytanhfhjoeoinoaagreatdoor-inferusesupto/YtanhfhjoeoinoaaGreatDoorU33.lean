/- A part of the proof of InferUses, second form: for every input of bulk at most 1048576 the call returns true and the arguments read as they did. Its condition: that bulk. -/
import Derived.Test.YtanhfhjoeoinoaaGreatDoorU32
import Derived.Test.YtanhfhjoeoinoaaGreatDoorU21
/- Infer, on the tree of one name applied to another. -/
namespace Go.Dv.Us
open Go.Dv.K Go.Proofs
def fltA (c f t : Int) : AV := .d (.agg [.int .i64 c, .int .i64 f, .int .i64 t])
/-- A type's right words: names are short. -/
noncomputable def shortK (s : List UInt8) : Int := if s.length ≤ 1600 then kindOf s else 0
/-- What Infer answers. -/
def InfA (e : Nat) (Ta Tb Tr : Ty) (v : AV) : Prop :=
  (e ≠ 0 ∧ v = .tuple [.d .nilslice, fltA (if e = 130 then 6 else 5) 8 11]) ∨ (e = 0 ∧ (300 < Ta.size ∨ 300 < Tb.size) ∧ ∃ f t, v = .tuple [.d .nilslice, fltA 7 f t]) ∨
  (e = 0 ∧ Tr.size ≤ 300 ∧ ∃ ts : List Ty, ts.length = 4 ∧ v = .tuple [.d (rowD false 5 (Ty.cellsL (Tr.close :: ts))), fltA 0 0 0])
theorem close_first {T : Ty} {ts : List Ty} (f : Nat → Nat) (hf : ∀ x y, f x = f y → x = y) : (T.rename f).rename (idx (addVs [] (Ty.varsL (T.rename f :: ts)))) = T.close := by
  have h1 : (T.rename f).rename (idx (addVs [] (Ty.varsL (T.rename f :: ts)))) = (T.rename f).close := by
    unfold Ty.close
    refine Ty.rename_congr _ fun v hv => ?_
    simp only [Ty.varsL, addVs_append]
    exact idx_addVs (mem_addVs.2 (.inr hv))
  rw [h1]
  exact Ty.close_rename T fun x _ y _ h => hf x y h
theorem closed_size {n : Nat} {b : Bool} (hn : (size301 n > 300) = b) : True := trivial
theorem infer_ret {F X : Ty} {h : Hp} {nid ver : Nat} (gN : h.get nid = some (.cells (namesC F X) ver)) (lN : nid < h.next) (hclF : ∀ h, Ret ctx Or Xo 46 [F.agg] h (fun v h' => v = vbool true ∧ Ext h h')) (hclX : ∀ h, Ret ctx Or Xo 46 [X.agg] h (fun v h' => v = vbool true ∧ Ext h h'))
    (hF : F.Fit kindOf) (hX : X.Fit kindOf) (sF : F.Short) (sX : X.Short) (zF : F.size ≤ 300) (zX : X.size ≤ 300) {kk : Nat} (hk1 : kk ≤ 2 ^ 25) (hk2 : 2 ^ 25 ≤ kk) {S : Store} {e : Nat}
    (hu : (use4 F X).S.unify kk (use4 F X).a (use4 F X).c = some (S, e)) (he : e = 131 ∨ e = 130 ∨ e = 0) {Ta Tb Tr : Ty} (h0 : e = 0 → Unified kindOf (use4 F X) S Ta Tb Tr) :
    Ret ctx Or Xo 14 [.d baseD, .msl nid 0 2 ver 5, .d nodesD] h (fun v _ => InfA e Ta Tb Tr v) := by
  have hU := use4_ok hF hX zF zX
  have hAll := fun {i : TI7} {h : Hp} {p : At} (T : TY F X i h store0 p [0, 0, 0, 0, 0]) => all_ret T hF hX sF sX zF zX hk1 hk2 hu he h0
  have hRes := fun {h : Hp} (g : h.get nid = some (.cells (namesC F X) ver)) (l : nid < h.next) => resolver_ret g l
  generalize hue : use4 F X = u at hU h0
  have hAll2 : ∀ {i : TI7} {h : Hp} {p : At}, TY F X i h store0 p [0, 0, 0, 0, 0] → Ret ctx Or Xo 50 [.ptr i.t 0 0] h (fun v h' => (e ≠ 0 ∧ v = vbool false ∧ Failed i (if e = 130 then 6 else 5) 8 11 h') ∨ (e = 0 ∧ 300 < Tr.size ∧ v = vbool false ∧ Failed i 7 4 5 h') ∨
      (e = 0 ∧ Tr.size ≤ 300 ∧ v = vbool true ∧ ∃ p', TY F X i h' (S.tie u.r) p' [0, u.a + 1, u.b + 1, u.r + 1, 0])) := fun T => by
    have := hAll T
    unfold AllA at this
    rw [hue] at this
    exact this
  clear hAll hue hu
  cases F with
  | mk kF nF mF bF aF =>
  cases X with
  | mk kX nX mX bX aX =>
  refine body (env := [(0, .d baseD), (1, .msl nid 0 2 ver 5), (2, .d nodesD)]) (rs := [.tmp 6, .cell 7 35]) Tryz.func14 rfl rfl Tryz.ntmps14 rfl rfl ?_
  refine s_seq <| s_region ?_
  refine s_newL rfl rfl rfl rfl rfl ?_
  refine s_val rfl rfl rfl rfl ?_
  refine s_newL rfl rfl rfl rfl rfl ?_
  refine s_nil <| s_seq <| s_seq <| s_region <| s_val rfl rfl rfl rfl ?_
  refine s_ret1 (dright_ret _) rfl rfl rfl rfl ?_
  rintro _ _ ⟨rfl, rfl⟩
  refine s_val rfl rfl rfl rfl <| s_nil <| s_cond_f rfl <| s_skip <| s_seq <| s_seq <| s_region ?_
  iterate 3 refine s_val rfl rfl rfl rfl ?_
  refine s_nil <| s_block ?_
  rename_i h
  refine s_loop ?_
  refine wpR_less (σ' := ⟨[(1, .msl nid 0 2 ver 5), (2, .d nodesD), (3, .lptr 3 0), (7, .lptr 7 0), (21, .msl nid 0 2 ver 5), (22, vint (2 : Nat)), (23, vint (0 : Nat))], [(3, (AV.d baseD).cells), (7, [vint 0, vint 0, vint 0])], h⟩) ⟨⟨rfl, rfl, rfl, rfl, rfl, rfl, rfl, trivial⟩, ⟨rfl, rfl, trivial⟩, rfl⟩ ?_
  refine wpR_round ?_
  refine s_seq <| s_region <| s_val rfl rfl rfl rfl <| s_nil <| s_seq <| s_cond_t rfl <| s_skip <| s_seq <| s_block <| s_seq <| s_region <| s_val rfl rfl rfl rfl ?_
  refine s_val rfl (o_eq (v' := exA [102] (Ty.mk kF nF mF bF aF)) (o_load rfl rfl rfl gN rfl rfl) rfl) rfl rfl ?_
  refine s_newL rfl rfl rfl rfl rfl ?_
  refine s_setL rfl (o_storeL rfl rfl rfl rfl rfl rfl (exA_cell _ _) rfl (Nat.le_refl 5)) rfl ?_
  refine s_nil <| s_seq <| s_region <| s_val rfl rfl rfl rfl <| s_val rfl rfl rfl rfl ?_
  refine s_ret1 (kf_ret _) rfl rfl rfl rfl ?_
  rintro _ hz ⟨rfl, hze⟩
  subst hze
  iterate 4 refine s_val rfl rfl rfl rfl ?_
  refine s_ret1 (hclF _) rfl rfl rfl rfl ?_
  rintro _ h1 ⟨rfl, e1⟩
  have gN1 := (e1.keep _ lN).trans gN
  refine s_val rfl rfl rfl rfl <| s_val rfl rfl rfl rfl <| s_nil <| s_cond_f rfl <| s_skip <| s_region <| s_val rfl rfl rfl rfl <| s_val rfl rfl rfl rfl <| s_nil ?_
  refine wpR_less (σ' := ⟨[(1, .msl nid 0 2 ver 5), (2, .d nodesD), (3, .lptr 3 0), (7, .lptr 7 0), (21, .msl nid 0 2 ver 5), (22, vint (2 : Nat)), (23, vint (1 : Nat))], [(3, (AV.d baseD).cells), (7, [vint 0, vint 0, vint 0])], h1⟩) ⟨⟨rfl, rfl, rfl, rfl, rfl, rfl, rfl, trivial⟩, ⟨rfl, rfl, trivial⟩, rfl⟩ ?_
  refine wpR_round ?_
  refine s_seq <| s_region <| s_val rfl rfl rfl rfl <| s_nil <| s_seq <| s_cond_t rfl <| s_skip <| s_seq <| s_block <| s_seq <| s_region <| s_val rfl rfl rfl rfl ?_
  refine s_val rfl (o_eq (v' := exA [120] (Ty.mk kX nX mX bX aX)) (o_load rfl rfl rfl gN1 rfl rfl) rfl) rfl rfl ?_
  refine s_newL rfl rfl rfl rfl rfl ?_
  refine s_setL rfl (o_storeL rfl rfl rfl rfl rfl rfl (exA_cell _ _) rfl (Nat.le_refl 5)) rfl ?_
  refine s_nil <| s_seq <| s_region <| s_val rfl rfl rfl rfl <| s_val rfl rfl rfl rfl ?_
  refine s_ret1 (kx_ret _) rfl rfl rfl rfl ?_
  rintro _ hz ⟨rfl, hze⟩
  subst hze
  iterate 4 refine s_val rfl rfl rfl rfl ?_
  refine s_ret1 (hclX _) rfl rfl rfl rfl ?_
  rintro _ h2 ⟨rfl, e2⟩
  have gN2 := (e2.keep _ (Nat.lt_of_lt_of_le lN e1.next)).trans gN1
  refine s_val rfl rfl rfl rfl <| s_val rfl rfl rfl rfl <| s_nil <| s_cond_f rfl <| s_skip <| s_region <| s_val rfl rfl rfl rfl <| s_val rfl rfl rfl rfl <| s_nil ?_
  refine wpR_less (σ' := ⟨[(1, .msl nid 0 2 ver 5), (2, .d nodesD), (3, .lptr 3 0), (7, .lptr 7 0), (21, .msl nid 0 2 ver 5), (22, vint (2 : Nat)), (23, vint (2 : Nat))], [(3, (AV.d baseD).cells), (7, [vint 0, vint 0, vint 0])], h2⟩) ⟨⟨rfl, rfl, rfl, rfl, rfl, rfl, rfl, trivial⟩, ⟨rfl, rfl, trivial⟩, rfl⟩ ?_
  refine wpR_round ?_
  refine s_seq <| s_region <| s_val rfl rfl rfl rfl <| s_nil <| s_seq <| s_cond_f rfl ?_
  refine s_exit ?_
  refine s_seq <| s_seq <| s_region ?_
  iterate 13 refine s_val rfl rfl rfl rfl ?_
  refine s_nil <| s_cond_f rfl <| s_skip <| s_seq <| s_seq <| s_region <| s_val rfl rfl rfl rfl ?_
  refine s_ret1 (pshow_ret _) rfl rfl rfl rfl ?_
  rintro _ hz ⟨rfl, hze⟩
  subst hze
  iterate 5 refine s_val rfl rfl rfl rfl ?_
  refine s_nil <| s_seq <| s_region <| s_val rfl rfl rfl rfl <| s_val rfl rfl rfl rfl <| s_nil <| s_cond_f rfl <| s_skip <| s_seq <| s_region ?_
  iterate 3 refine s_val rfl rfl rfl rfl ?_
  refine s_ret1 (hRes gN2 (Nat.lt_of_lt_of_le (Nat.lt_of_lt_of_le lN e1.next) e2.next)) rfl rfl rfl rfl ?_
  rintro _ h3 ⟨rfl, R3, e3, n3⟩
  refine s_val rfl rfl rfl rfl <| s_nil <| s_seq <| s_region ?_
  iterate 4 refine s_val rfl rfl rfl rfl ?_
  refine s_ret1 (walk4_ret R3) rfl rfl rfl rfl ?_
  rintro _ h4 A4
  have R4 := R3.alike A4
  have n4 := A4.1
  refine s_nil <| s_seq <| s_seq <| s_region ?_
  iterate 4 refine s_val rfl rfl rfl rfl ?_
  refine s_val rfl (o_load rfl rfl rfl R4.gr rfl rfl) rfl rfl ?_
  refine s_val rfl rfl rfl rfl <| s_nil <| s_cond_f rfl <| s_skip <| s_seq <| s_region <| s_val rfl rfl rfl rfl ?_
  refine s_ret1 (typer_ret R4 (by omega) (by omega) (by omega) ⟨by omega, by omega, by omega⟩) rfl rfl rfl rfl ?_
  rintro _ h5 ⟨rfl, e5, T5⟩
  refine s_val rfl rfl rfl rfl <| s_nil <| s_seq <| s_seq <| s_region <| s_val rfl rfl rfl rfl ?_
  refine s_ret1 (hAll2 T5) rfl rfl rfl rfl ?_
  rintro va h6 hA6
  rcases hA6 with ⟨he0, rfl, hfail⟩ | ⟨rfl, hbig, rfl, hfail⟩ | ⟨rfl, hsm, rfl, q6, T6⟩
  · skip
    refine s_val rfl rfl rfl rfl <| s_nil <| s_cond_t rfl <| s_seq ?_
    refine s_drawn { ord := [0, 1, 2, 3, 4, 5], wr := 32, cl := [0, 1, 3, 7, 0, 31] } (by kernel_rfl) ?_
    iterate 3 refine d_val rfl rfl rfl rfl rfl ?_
    refine d_val rfl rfl (o_load rfl rfl rfl hfail rfl rfl) rfl rfl ?_
    refine d_val rfl rfl rfl rfl rfl ?_
    refine d_setL rfl rfl (o_storeL rfl rfl rfl rfl rfl rfl rfl rfl (Nat.le_refl 3)) rfl ?_
    refine d_nil ⟨trivial, trivial, ?_⟩
    refine s_ret ?_
    exact ⟨.inr rfl, _, allSome2 (r_tmp rfl rfl) (r_cellL rfl rfl rfl rfl rfl), .inl ⟨he0, rfl⟩⟩
  · skip
    refine s_val rfl rfl rfl rfl <| s_nil <| s_cond_t rfl <| s_seq ?_
    refine s_drawn { ord := [0, 1, 2, 3, 4, 5], wr := 32, cl := [0, 1, 3, 7, 0, 31] } (by kernel_rfl) ?_
    iterate 3 refine d_val rfl rfl rfl rfl rfl ?_
    refine d_val rfl rfl (o_load rfl rfl rfl hfail rfl rfl) rfl rfl ?_
    refine d_val rfl rfl rfl rfl rfl ?_
    refine d_setL rfl rfl (o_storeL rfl rfl rfl rfl rfl rfl rfl rfl (Nat.le_refl 3)) rfl ?_
    refine d_nil ⟨trivial, trivial, ?_⟩
    refine s_ret ?_
    exact ⟨.inr rfl, _, allSome2 (r_tmp rfl rfl) (r_cellL rfl rfl rfl rfl rfl), .inr (.inl ⟨rfl, .inl (by have := (h0 rfl).size; omega), _, _, rfl⟩)⟩
  · skip
    refine s_val rfl rfl rfl rfl <| s_nil <| s_cond_f rfl <| s_skip <| s_seq <| s_seq <| s_region ?_
    iterate 3 refine s_val rfl rfl rfl rfl ?_
    refine s_nil <| s_block ?_
    have hUn := h0 rfl
    have hSl : S.nodes.length = u.S.nodes.length := by rw [hUn.nodes]
    have hlenU := hU.len
    have hSz : S.nodes.length + 1 ≤ 2 ^ 12 := by rw [hSl]; omega
    have hnok : ∀ n, n < S.nodes.length → NodeOk kindOf (S.node n) := fun n hn => by
      have h5 : S.node n = u.S.node n := by unfold Store.node; rw [hUn.nodes]
      rw [h5]; exact hU.made.nok n (by rw [← hSl]; exact hn)
    have hr : u.r < S.nodes.length := by rw [hSl]; exact hU.r
    have hua : u.a < S.nodes.length := by rw [hSl]; exact hU.a
    have hub : u.b < S.nodes.length := by rw [hSl]; exact hU.b
    have hwt : Wf (S.tie u.r) := (hUn.wf.sh hSz).putAll (tie_two hUn.wf hr)
    have htl : (S.tie u.r).nodes.length = S.nodes.length + 1 := by rw [tie_nodes, sh_len]
    have htn : ∀ n, n < (S.tie u.r).nodes.length → ((S.tie u.r).form n).kind = 1 → ((S.tie u.r).form n).args = [] := fun n hn => (tie_nok hUn.wf hSz hnok hr n hn).args
    have d0 := den_tie0 hUn.wf hSz hr hUn.r
    have da := den_tie hUn.wf hSz hr hUn.a hua
    have db := den_tie hUn.wf hSz hr hUn.b hub
    have dr := den_tie hUn.wf hSz hr hUn.r hr
    have zr : (Tr.rename (· + 1)).size = Tr.size := den_size hUn.r
    have za : (Ta.rename (· + 1)).size = Ta.size := den_size hUn.a
    have zb : (Tb.rename (· + 1)).size = Tb.size := den_size hUn.b
    have hsz := hUn.size
    refine s_loop ?_
    refine wpR_less (σ' := ⟨[(2, .d nodesD), (7, .lptr 7 0), (13, .ptr (h4.next + 1) 0 0), (90, vint (5 : Nat)), (91, vint (0 : Nat))], [(7, [vint 0, vint 0, vint 0])], h6⟩) ⟨⟨rfl, rfl, rfl, rfl, rfl, trivial⟩, ⟨rfl, trivial⟩, rfl⟩ ?_
    refine wpR_round ?_
    refine s_seq <| s_region <| s_val rfl rfl rfl rfl <| s_nil <| s_seq <| s_cond_t rfl <| s_skip <| s_seq <| s_block <| s_seq <| s_region <| s_val rfl rfl rfl rfl <| s_val rfl rfl rfl rfl <| s_nil <| s_seq ?_
    refine s_drawn { ord := [0, 1, 2, 3, 4, 5, 6, 7, 8, 9, 10, 11, 12], wr := 2048, cl := [0, 1, 3, 7, 0, 16, 48, 112, 0, 496, 1008, 2047, 4095] } (by kernel_rfl) ?_
    iterate 3 refine d_val rfl rfl rfl rfl rfl ?_
    refine d_val rfl rfl (o_load rfl rfl rfl T6.gt rfl rfl) rfl rfl ?_
    iterate 3 refine d_val rfl rfl rfl rfl rfl ?_
    refine d_val rfl rfl (o_load rfl rfl rfl T6.gt rfl rfl) rfl rfl ?_
    refine d_val rfl rfl rfl rfl rfl <| d_val rfl rfl rfl rfl rfl ?_
    refine d_val rfl rfl (o_load rfl rfl rfl T6.gn rfl rfl) rfl rfl ?_
    refine d_ret1 (size_ret T6.hS hwt htn (n := 0) (by omega) d0) rfl rfl rfl rfl rfl ?_
    rintro _ hs0 ⟨rfl, es0⟩
    have U0 := T6.ext es0
    rw [zr]
    refine d_val rfl rfl rfl rfl rfl ?_
    refine d_nil ⟨trivial, trivial, ?_⟩
    refine s_cond_f (congrArg (fun t => some (vbool t)) (decide_eq_false (show ¬ ((size301 Tr.size : Nat) : Int) > 300 by unfold size301; rw [if_pos hsm]; omega))) ?_
    refine s_skip <| s_region <| s_val rfl rfl rfl rfl <| s_val rfl rfl rfl rfl <| s_nil ?_
    refine wpR_less (σ' := ⟨[(2, .d nodesD), (7, .lptr 7 0), (13, .ptr (h4.next + 1) 0 0), (90, vint (5 : Nat)), (91, vint (1 : Nat))], [(7, [vint 0, vint 0, vint 0])], hs0⟩) ⟨⟨rfl, rfl, rfl, rfl, rfl, trivial⟩, ⟨rfl, trivial⟩, rfl⟩ ?_
    refine wpR_round ?_
    refine s_seq <| s_region <| s_val rfl rfl rfl rfl <| s_nil <| s_seq <| s_cond_t rfl <| s_skip <| s_seq <| s_block <| s_seq <| s_region <| s_val rfl rfl rfl rfl <| s_val rfl rfl rfl rfl <| s_nil <| s_seq ?_
    refine s_drawn { ord := [0, 1, 2, 3, 4, 5, 6, 7, 8, 9, 10, 11, 12], wr := 2048, cl := [0, 1, 3, 7, 0, 16, 48, 112, 0, 496, 1008, 2047, 4095] } (by kernel_rfl) ?_
    iterate 3 refine d_val rfl rfl rfl rfl rfl ?_
    refine d_val rfl rfl (o_load rfl rfl rfl U0.gt rfl rfl) rfl rfl ?_
    iterate 3 refine d_val rfl rfl rfl rfl rfl ?_
    refine d_val rfl rfl (o_load rfl rfl rfl U0.gt rfl rfl) rfl rfl ?_
    refine d_val rfl rfl rfl rfl rfl <| d_val rfl rfl rfl rfl rfl ?_
    refine d_val rfl rfl (o_load rfl rfl rfl U0.gn rfl rfl) rfl rfl ?_
    refine d_ret1 (size_ret U0.hS hwt htn (n := u.a + 1) (by omega) da) rfl rfl rfl rfl rfl ?_
    rintro _ hs1 ⟨rfl, es1⟩
    have U1 := U0.ext es1
    rw [za]
    refine d_val rfl rfl rfl rfl rfl ?_
    refine d_nil ⟨trivial, trivial, ?_⟩
    by_cases hTa : Ta.size ≤ 300
    · refine s_cond_f (congrArg (fun t => some (vbool t)) (decide_eq_false (show ¬ ((size301 Ta.size : Nat) : Int) > 300 by unfold size301; rw [if_pos hTa]; omega))) ?_
      refine s_skip <| s_region <| s_val rfl rfl rfl rfl <| s_val rfl rfl rfl rfl <| s_nil ?_
      refine wpR_less (σ' := ⟨[(2, .d nodesD), (7, .lptr 7 0), (13, .ptr (h4.next + 1) 0 0), (90, vint (5 : Nat)), (91, vint (2 : Nat))], [(7, [vint 0, vint 0, vint 0])], hs1⟩) ⟨⟨rfl, rfl, rfl, rfl, rfl, trivial⟩, ⟨rfl, trivial⟩, rfl⟩ ?_
      refine wpR_round ?_
      refine s_seq <| s_region <| s_val rfl rfl rfl rfl <| s_nil <| s_seq <| s_cond_t rfl <| s_skip <| s_seq <| s_block <| s_seq <| s_region <| s_val rfl rfl rfl rfl <| s_val rfl rfl rfl rfl <| s_nil <| s_seq ?_
      refine s_drawn { ord := [0, 1, 2, 3, 4, 5, 6, 7, 8, 9, 10, 11, 12], wr := 2048, cl := [0, 1, 3, 7, 0, 16, 48, 112, 0, 496, 1008, 2047, 4095] } (by kernel_rfl) ?_
      iterate 3 refine d_val rfl rfl rfl rfl rfl ?_
      refine d_val rfl rfl (o_load rfl rfl rfl U1.gt rfl rfl) rfl rfl ?_
      iterate 3 refine d_val rfl rfl rfl rfl rfl ?_
      refine d_val rfl rfl (o_load rfl rfl rfl U1.gt rfl rfl) rfl rfl ?_
      refine d_val rfl rfl rfl rfl rfl <| d_val rfl rfl rfl rfl rfl ?_
      refine d_val rfl rfl (o_load rfl rfl rfl U1.gn rfl rfl) rfl rfl ?_
      refine d_ret1 (size_ret U1.hS hwt htn (n := u.b + 1) (by omega) db) rfl rfl rfl rfl rfl ?_
      rintro _ hs2 ⟨rfl, es2⟩
      have U2 := U1.ext es2
      rw [zb]
      refine d_val rfl rfl rfl rfl rfl ?_
      refine d_nil ⟨trivial, trivial, ?_⟩
      by_cases hTb : Tb.size ≤ 300
      · refine s_cond_f (congrArg (fun t => some (vbool t)) (decide_eq_false (show ¬ ((size301 Tb.size : Nat) : Int) > 300 by unfold size301; rw [if_pos hTb]; omega))) ?_
        refine s_skip <| s_region <| s_val rfl rfl rfl rfl <| s_val rfl rfl rfl rfl <| s_nil ?_
        refine wpR_less (σ' := ⟨[(2, .d nodesD), (7, .lptr 7 0), (13, .ptr (h4.next + 1) 0 0), (90, vint (5 : Nat)), (91, vint (3 : Nat))], [(7, [vint 0, vint 0, vint 0])], hs2⟩) ⟨⟨rfl, rfl, rfl, rfl, rfl, trivial⟩, ⟨rfl, trivial⟩, rfl⟩ ?_
        refine wpR_round ?_
        refine s_seq <| s_region <| s_val rfl rfl rfl rfl <| s_nil <| s_seq <| s_cond_t rfl <| s_skip <| s_seq <| s_block <| s_seq <| s_region <| s_val rfl rfl rfl rfl <| s_val rfl rfl rfl rfl <| s_nil <| s_seq ?_
        refine s_drawn { ord := [0, 1, 2, 3, 4, 5, 6, 7, 8, 9, 10, 11, 12], wr := 2048, cl := [0, 1, 3, 7, 0, 16, 48, 112, 0, 496, 1008, 2047, 4095] } (by kernel_rfl) ?_
        iterate 3 refine d_val rfl rfl rfl rfl rfl ?_
        refine d_val rfl rfl (o_load rfl rfl rfl U2.gt rfl rfl) rfl rfl ?_
        iterate 3 refine d_val rfl rfl rfl rfl rfl ?_
        refine d_val rfl rfl (o_load rfl rfl rfl U2.gt rfl rfl) rfl rfl ?_
        refine d_val rfl rfl rfl rfl rfl <| d_val rfl rfl rfl rfl rfl ?_
        refine d_val rfl rfl (o_load rfl rfl rfl U2.gn rfl rfl) rfl rfl ?_
        refine d_ret1 (size_ret U2.hS hwt htn (n := u.r + 1) (by omega) dr) rfl rfl rfl rfl rfl ?_
        rintro _ hs3 ⟨rfl, es3⟩
        have U3 := U2.ext es3
        rw [zr]
        refine d_val rfl rfl rfl rfl rfl ?_
        refine d_nil ⟨trivial, trivial, ?_⟩
        refine s_cond_f (congrArg (fun t => some (vbool t)) (decide_eq_false (show ¬ ((size301 Tr.size : Nat) : Int) > 300 by unfold size301; rw [if_pos hsm]; omega))) ?_
        refine s_skip <| s_region <| s_val rfl rfl rfl rfl <| s_val rfl rfl rfl rfl <| s_nil ?_
        refine wpR_less (σ' := ⟨[(2, .d nodesD), (7, .lptr 7 0), (13, .ptr (h4.next + 1) 0 0), (90, vint (5 : Nat)), (91, vint (4 : Nat))], [(7, [vint 0, vint 0, vint 0])], hs3⟩) ⟨⟨rfl, rfl, rfl, rfl, rfl, trivial⟩, ⟨rfl, trivial⟩, rfl⟩ ?_
        refine wpR_round ?_
        refine s_seq <| s_region <| s_val rfl rfl rfl rfl <| s_nil <| s_seq <| s_cond_t rfl <| s_skip <| s_seq <| s_block <| s_seq <| s_region <| s_val rfl rfl rfl rfl <| s_val rfl rfl rfl rfl <| s_nil <| s_seq ?_
        refine s_drawn { ord := [0, 1, 2, 3, 4, 5, 6, 7, 8, 9, 10, 11, 12], wr := 2048, cl := [0, 1, 3, 7, 0, 16, 48, 112, 0, 496, 1008, 2047, 4095] } (by kernel_rfl) ?_
        iterate 3 refine d_val rfl rfl rfl rfl rfl ?_
        refine d_val rfl rfl (o_load rfl rfl rfl U3.gt rfl rfl) rfl rfl ?_
        iterate 3 refine d_val rfl rfl rfl rfl rfl ?_
        refine d_val rfl rfl (o_load rfl rfl rfl U3.gt rfl rfl) rfl rfl ?_
        refine d_val rfl rfl rfl rfl rfl <| d_val rfl rfl rfl rfl rfl ?_
        refine d_val rfl rfl (o_load rfl rfl rfl U3.gn rfl rfl) rfl rfl ?_
        refine d_ret1 (size_ret U3.hS hwt htn (n := 0) (by omega) d0) rfl rfl rfl rfl rfl ?_
        rintro _ hs4 ⟨rfl, es4⟩
        have U4 := U3.ext es4
        rw [zr]
        refine d_val rfl rfl rfl rfl rfl ?_
        refine d_nil ⟨trivial, trivial, ?_⟩
        refine s_cond_f (congrArg (fun t => some (vbool t)) (decide_eq_false (show ¬ ((size301 Tr.size : Nat) : Int) > 300 by unfold size301; rw [if_pos hsm]; omega))) ?_
        refine s_skip <| s_region <| s_val rfl rfl rfl rfl <| s_val rfl rfl rfl rfl <| s_nil ?_
        refine wpR_less (σ' := ⟨[(2, .d nodesD), (7, .lptr 7 0), (13, .ptr (h4.next + 1) 0 0), (90, vint (5 : Nat)), (91, vint (5 : Nat))], [(7, [vint 0, vint 0, vint 0])], hs4⟩) ⟨⟨rfl, rfl, rfl, rfl, rfl, trivial⟩, ⟨rfl, trivial⟩, rfl⟩ ?_
        refine wpR_round ?_
        refine s_seq <| s_region <| s_val rfl rfl rfl rfl <| s_nil <| s_seq <| s_cond_f rfl ?_
        refine s_exit ?_
        refine s_seq ?_
        have hdens : Dens (S.tie u.r) [0, u.a + 1, u.b + 1, u.r + 1, 0] [Tr.rename (· + 1), Ta.rename (· + 1), Tb.rename (· + 1), Tr.rename (· + 1), Tr.rename (· + 1)] := by
          refine ⟨rfl, fun i hi => ?_⟩
          match i, hi with
          | 0, _ => exact ⟨by show 0 < _; omega, d0⟩
          | 1, _ => exact ⟨by show u.a + 1 < _; omega, da⟩
          | 2, _ => exact ⟨by show u.b + 1 < _; omega, db⟩
          | 3, _ => exact ⟨by show u.r + 1 < _; omega, dr⟩
          | 4, _ => exact ⟨by show 0 < _; omega, d0⟩
        refine s_drawn { ord := [0, 1, 2, 3, 4, 5, 6, 7, 8, 9, 10, 11, 12, 13], wr := 256, cl := [0, 1, 3, 7, 0, 16, 48, 112, 255, 511, 1023, 1023, 2047, 8191] } (by kernel_rfl) ?_
        iterate 3 refine d_val rfl rfl rfl rfl rfl ?_
        refine d_val rfl rfl (o_load rfl rfl rfl U4.gt rfl rfl) rfl rfl ?_
        iterate 3 refine d_val rfl rfl rfl rfl rfl ?_
        refine d_val rfl rfl (o_load rfl rfl rfl U4.gt rfl rfl) rfl rfl ?_
        refine d_ret1 (types_ret U4.hS hwt htn (v := .msl (h4.next + 2) 0 5 0 1) (az := [0, u.a + 1, u.b + 1, u.r + 1, 0]) (.row (l := [0, u.a + 1, u.b + 1, u.r + 1, 0]) U4.gn rfl) ⟨rfl, rfl⟩ (fun id hid => by simp [AV.own] at hid; have := (U4.no id (by simp [hid])).2; exact this) (Nat.le_of_ble_eq_true rfl) (ts := [Tr.rename (· + 1), Ta.rename (· + 1), Tb.rename (· + 1), Tr.rename (· + 1), Tr.rename (· + 1)]) hdens (fun t ht => by simp only [List.mem_cons, List.not_mem_nil, or_false] at ht; rcases ht with rfl | rfl | rfl | rfl | rfl <;> omega)) rfl rfl rfl rfl rfl ?_
        rintro _ h9 ⟨rfl, e9⟩
        iterate 5 refine d_val rfl rfl rfl rfl rfl ?_
        refine d_nil ⟨trivial, trivial, ?_⟩
        refine s_seq <| s_seq <| s_region <| s_val rfl rfl rfl rfl <| s_val rfl rfl rfl rfl <| s_nil <| s_cond_f rfl <| s_skip <| s_seq <| s_region ?_
        iterate 3 refine s_val rfl rfl rfl rfl ?_
        refine s_setL rfl (o_storeL rfl rfl rfl rfl rfl rfl rfl rfl (Nat.le_refl 3)) rfl ?_
        refine s_nil <| s_ret ?_
        first
        | exact ⟨.inr rfl, _, allSome2 (r_tmp rfl rfl) (r_cellL rfl rfl rfl rfl rfl), .inr (.inl ⟨rfl, .inl (by omega), _, _, rfl⟩)⟩
        | exact ⟨.inr rfl, _, allSome2 (r_tmp rfl rfl) (r_cellL rfl rfl rfl rfl rfl), .inr (.inl ⟨rfl, .inr (by omega), _, _, rfl⟩)⟩
        | (refine ⟨.inr rfl, _, allSome2 (r_tmp rfl rfl) (r_cellL rfl rfl rfl rfl rfl), .inr (.inr ⟨rfl, hsm, (([Ta.rename (· + 1), Tb.rename (· + 1), Tr.rename (· + 1), Tr.rename (· + 1)] : List Ty).map (Ty.rename (idx (addVs [] (Ty.varsL [Tr.rename (· + 1), Ta.rename (· + 1), Tb.rename (· + 1), Tr.rename (· + 1), Tr.rename (· + 1)]))))), rfl, ?_⟩)⟩
           rw [← close_first (T := Tr) (ts := [Ta.rename (· + 1), Tb.rename (· + 1), Tr.rename (· + 1), Tr.rename (· + 1)]) (· + 1) (fun x y h => by omega)]
           rfl)
      · refine s_cond_t (congrArg (fun t => some (vbool t)) (decide_eq_true (show ((size301 Tb.size : Nat) : Int) > 300 by unfold size301; rw [if_neg hTb]; omega))) ?_
        refine s_seq <| s_region ?_
        iterate 4 refine s_val rfl rfl rfl rfl ?_
        refine s_ret1 (at_ret (k := 5) (num := 0) (kids := .nilslice) (.inl rfl)) rfl rfl rfl rfl ?_
        rintro _ hz ⟨rfl, hze⟩
        subst hze
        refine s_val rfl rfl rfl rfl ?_
        refine s_setL rfl (o_storeL rfl rfl rfl rfl rfl rfl rfl rfl (Nat.le_refl 3)) rfl ?_
        refine s_nil <| s_ret ?_
        first
        | exact ⟨.inr rfl, _, allSome2 (r_tmp rfl rfl) (r_cellL rfl rfl rfl rfl rfl), .inr (.inl ⟨rfl, .inl (by omega), _, _, rfl⟩)⟩
        | exact ⟨.inr rfl, _, allSome2 (r_tmp rfl rfl) (r_cellL rfl rfl rfl rfl rfl), .inr (.inl ⟨rfl, .inr (by omega), _, _, rfl⟩)⟩
        | (refine ⟨.inr rfl, _, allSome2 (r_tmp rfl rfl) (r_cellL rfl rfl rfl rfl rfl), .inr (.inr ⟨rfl, hsm, (([Ta.rename (· + 1), Tb.rename (· + 1), Tr.rename (· + 1), Tr.rename (· + 1)] : List Ty).map (Ty.rename (idx (addVs [] (Ty.varsL [Tr.rename (· + 1), Ta.rename (· + 1), Tb.rename (· + 1), Tr.rename (· + 1), Tr.rename (· + 1)]))))), rfl, ?_⟩)⟩
           rw [← close_first (T := Tr) (ts := [Ta.rename (· + 1), Tb.rename (· + 1), Tr.rename (· + 1), Tr.rename (· + 1)]) (· + 1) (fun x y h => by omega)]
           rfl)
    · refine s_cond_t (congrArg (fun t => some (vbool t)) (decide_eq_true (show ((size301 Ta.size : Nat) : Int) > 300 by unfold size301; rw [if_neg hTa]; omega))) ?_
      refine s_seq <| s_region ?_
      iterate 4 refine s_val rfl rfl rfl rfl ?_
      refine s_ret1 (at_ret (k := 5) (num := 0) (kids := .nilslice) (.inl rfl)) rfl rfl rfl rfl ?_
      rintro _ hz ⟨rfl, hze⟩
      subst hze
      refine s_val rfl rfl rfl rfl ?_
      refine s_setL rfl (o_storeL rfl rfl rfl rfl rfl rfl rfl rfl (Nat.le_refl 3)) rfl ?_
      refine s_nil <| s_ret ?_
      first
      | exact ⟨.inr rfl, _, allSome2 (r_tmp rfl rfl) (r_cellL rfl rfl rfl rfl rfl), .inr (.inl ⟨rfl, .inl (by omega), _, _, rfl⟩)⟩
      | exact ⟨.inr rfl, _, allSome2 (r_tmp rfl rfl) (r_cellL rfl rfl rfl rfl rfl), .inr (.inl ⟨rfl, .inr (by omega), _, _, rfl⟩)⟩
      | (refine ⟨.inr rfl, _, allSome2 (r_tmp rfl rfl) (r_cellL rfl rfl rfl rfl rfl), .inr (.inr ⟨rfl, hsm, (([Ta.rename (· + 1), Tb.rename (· + 1), Tr.rename (· + 1), Tr.rename (· + 1)] : List Ty).map (Ty.rename (idx (addVs [] (Ty.varsL [Tr.rename (· + 1), Ta.rename (· + 1), Tb.rename (· + 1), Tr.rename (· + 1), Tr.rename (· + 1)]))))), rfl, ?_⟩)⟩
         rw [← close_first (T := Tr) (ts := [Ta.rename (· + 1), Tb.rename (· + 1), Tr.rename (· + 1), Tr.rename (· + 1)]) (· + 1) (fun x y h => by omega)]
         rfl)
end Go.Dv.Us
/- Scheme, typed, on the tree of one name applied to another. -/
namespace Go.Dv.Us
open Go.Dv.K Go.Proofs
def SchA (e : Nat) (Ta Tb Tr : Ty) (v : AV) : Prop :=
 (e ≠ 0 ∧ v = .tuple [exA [] ty0, fltA (if e = 130 then 6 else 5) 8 11]) ∨ (e = 0 ∧ (300 < Ta.size ∨ 300 < Tb.size) ∧ ∃ f t, v = .tuple [exA [] ty0, fltA 7 f t]) ∨
 (e = 0 ∧ Tr.size ≤ 300 ∧ v = .tuple [exA [121] Tr.close, fltA 0 0 0])
def TypA (e : Nat) (Ta Tb Tr : Ty) (s : List UInt8) (v : AV) : Prop :=
 (e ≠ 0 ∧ v = .tuple [.d (.str []), fltA (if e = 130 then 6 else 5) 8 11]) ∨ (e = 0 ∧ (300 < Ta.size ∨ 300 < Tb.size) ∧ ∃ f t, v = .tuple [.d (.str []), fltA 7 f t]) ∨
 (e = 0 ∧ Tr.size ≤ 300 ∧ v = .tuple [.d (.str s), fltA 0 0 0])
theorem exA_len (nm : List UInt8) (T : Ty) : (exA nm T).cells.length = 5 := by cases T; rfl
theorem exA_take (nm : List UInt8) (T : Ty) {cs : List AV} (h : cs.length = 5) : takeExact 5 0 (putAt cs 0 (exA nm T).cells) = some (exA nm T).cells := by
 have : putAt cs 0 (exA nm T).cells = (exA nm T).cells := by
  simp only [putAt, List.take_zero, List.nil_append, Nat.zero_add, exA_len]
  rw [List.drop_of_length_le (by omega), List.append_nil]
 rw [this]; exact takeExact_all (exA_len _ _).symm
theorem exA_one (nm : List UInt8) (T : Ty) : oneOf true (exA nm T).cells = some (exA nm T) := by cases T; rfl
theorem exA_type (nm : List UInt8) (T : Ty) {cs : List AV} (h : cs.length = 5) : takeExact 4 (0 + 1) (putAt cs 0 (exA nm T).cells) = some T.agg.cells := by
 have : putAt cs 0 (exA nm T).cells = (exA nm T).cells := by
  simp only [putAt, List.take_zero, List.nil_append, Nat.zero_add, exA_len]
  rw [List.drop_of_length_le (by omega), List.append_nil]
 rw [this]; cases T; rfl
theorem codes (e : Nat) : ∃ c : Int, (c = 5 ∨ c = 6) ∧ (if e = 130 then 6 else 5 : Int) = c := by
 by_cases h : e = 130
 ·exact ⟨6, .inr rfl, if_pos h⟩
 ·exact ⟨5, .inl rfl, if_neg h⟩
theorem scheme_ret {h : Hp} {nv : AV} (hL : nv.isL = false) {e : Nat} {Ta Tb Tr : Ty} (hI : ∀ h', h' = h → Ret ctx Or Xo 14 [.d baseD, nv, .d nodesD] h' (fun v _ => InfA e Ta Tb Tr v)) (hr : e = 0 → Tr.size ≤ 300 → Tr.close.right kindOf = true ∧ Tr.close.Short) :
  Ret ctx Or Xo 17 [.d baseD, nv, .d nodesD] h (fun v _ => SchA e Ta Tb Tr v) := by
 refine body (env := [(0, .d baseD), (1, nv), (2, .d nodesD)]) (rs := [.cell 6 42, .cell 7 35]) Tryz.func17 rfl rfl Tryz.ntmps17 rfl rfl ?_
 refine s_seq <| s_region ?_
 refine s_newL rfl rfl rfl rfl (by repeat first | rfl | refine noL_cons (by first | rfl | exact hL) ?_ | refine noL_l rfl ?_) ?_
 refine s_newL rfl rfl rfl rfl (by repeat first | rfl | refine noL_cons (by first | rfl | exact hL) ?_ | refine noL_l rfl ?_) ?_
 refine s_newL rfl rfl rfl rfl (by repeat first | rfl | refine noL_cons (by first | rfl | exact hL) ?_ | refine noL_l rfl ?_) ?_
 refine s_nil <| s_seq <| s_region ?_
 iterate 3 refine s_val rfl rfl rfl rfl ?_
 refine s_ret1 (hI _ rfl) rfl (c_val rfl rfl rfl (args3 rfl rfl rfl hL rfl rfl)) rfl rfl ?_
 rintro va h1 hA
 rcases hA with ⟨he0, rfl⟩ | ⟨rfl, hbig, f, t, rfl⟩ | ⟨rfl, hsm, ts, hts, rfl⟩
 ·obtain ⟨c, hc, hce⟩ := codes e
  rw [hce]
  rcases hc with rfl | rfl
  ·skip
   iterate 3 refine s_val rfl rfl rfl rfl ?_
   refine s_newL rfl rfl rfl rfl (by repeat first | rfl | refine noL_cons (by first | rfl | exact hL) ?_ | refine noL_l rfl ?_) ?_
   refine s_val rfl rfl rfl rfl ?_
   refine s_setL rfl (o_storeL rfl rfl rfl rfl rfl rfl rfl rfl (Nat.le_refl 3)) rfl ?_
   refine s_nil <| s_seq <| s_seq <| s_region ?_
   iterate 3 refine s_val rfl rfl rfl rfl ?_
   refine s_nil <| s_cond_t rfl <| s_seq ?_
   refine s_drawn { ord := [0, 1, 2, 3], wr := 12, fl := [(1, 3)], cl := [0, 0, 1, 7] } (by kernel_rfl) ?_
   refine d_val rfl rfl rfl rfl rfl <| d_val rfl rfl rfl rfl rfl ?_
   refine d_setL rfl rfl (o_storeL rfl rfl rfl rfl rfl rfl (exA_cell [] ty0) rfl (Nat.le_refl 5)) rfl ?_
   refine d_setL rfl rfl (o_storeL rfl rfl rfl rfl rfl rfl rfl rfl (Nat.le_refl 3)) rfl ?_
   refine d_nil ⟨⟨fun _ ho _ => by cases ho; rfl, trivial⟩, trivial, ?_⟩
   refine s_ret ?_
   exact ⟨.inr rfl, _, allSome2 (r_cellL rfl rfl rfl rfl rfl) (r_cellL rfl rfl rfl rfl rfl), .inl ⟨he0, by rw [hce]; rfl⟩⟩
  ·skip
   iterate 3 refine s_val rfl rfl rfl rfl ?_
   refine s_newL rfl rfl rfl rfl (by repeat first | rfl | refine noL_cons (by first | rfl | exact hL) ?_ | refine noL_l rfl ?_) ?_
   refine s_val rfl rfl rfl rfl ?_
   refine s_setL rfl (o_storeL rfl rfl rfl rfl rfl rfl rfl rfl (Nat.le_refl 3)) rfl ?_
   refine s_nil <| s_seq <| s_seq <| s_region ?_
   iterate 3 refine s_val rfl rfl rfl rfl ?_
   refine s_nil <| s_cond_t rfl <| s_seq ?_
   refine s_drawn { ord := [0, 1, 2, 3], wr := 12, fl := [(1, 3)], cl := [0, 0, 1, 7] } (by kernel_rfl) ?_
   refine d_val rfl rfl rfl rfl rfl <| d_val rfl rfl rfl rfl rfl ?_
   refine d_setL rfl rfl (o_storeL rfl rfl rfl rfl rfl rfl (exA_cell [] ty0) rfl (Nat.le_refl 5)) rfl ?_
   refine d_setL rfl rfl (o_storeL rfl rfl rfl rfl rfl rfl rfl rfl (Nat.le_refl 3)) rfl ?_
   refine d_nil ⟨⟨fun _ ho _ => by cases ho; rfl, trivial⟩, trivial, ?_⟩
   refine s_ret ?_
   exact ⟨.inr rfl, _, allSome2 (r_cellL rfl rfl rfl rfl rfl) (r_cellL rfl rfl rfl rfl rfl), .inl ⟨he0, by rw [hce]; rfl⟩⟩
 ·skip
  iterate 3 refine s_val rfl rfl rfl rfl ?_
  refine s_newL rfl rfl rfl rfl (by repeat first | rfl | refine noL_cons (by first | rfl | exact hL) ?_ | refine noL_l rfl ?_) ?_
  refine s_val rfl rfl rfl rfl ?_
  refine s_setL rfl (o_storeL rfl rfl rfl rfl rfl rfl rfl rfl (Nat.le_refl 3)) rfl ?_
  refine s_nil <| s_seq <| s_seq <| s_region ?_
  iterate 3 refine s_val rfl rfl rfl rfl ?_
  refine s_nil <| s_cond_t rfl <| s_seq ?_
  refine s_drawn { ord := [0, 1, 2, 3], wr := 12, fl := [(1, 3)], cl := [0, 0, 1, 7] } (by kernel_rfl) ?_
  refine d_val rfl rfl rfl rfl rfl <| d_val rfl rfl rfl rfl rfl ?_
  refine d_setL rfl rfl (o_storeL rfl rfl rfl rfl rfl rfl (exA_cell [] ty0) rfl (Nat.le_refl 5)) rfl ?_
  refine d_setL rfl rfl (o_storeL rfl rfl rfl rfl rfl rfl rfl rfl (Nat.le_refl 3)) rfl ?_
  refine d_nil ⟨⟨fun _ ho _ => by cases ho; rfl, trivial⟩, trivial, ?_⟩
  refine s_ret ?_
  exact ⟨.inr rfl, _, allSome2 (r_cellL rfl rfl rfl rfl rfl) (r_cellL rfl rfl rfl rfl rfl), .inr (.inl ⟨rfl, hbig, f, t, rfl⟩)⟩
 ·have hlen : (Tr.close :: ts).length = 5 := by simp [hts]
  have hv : AV.d (rowD false 5 (Ty.cellsL (Tr.close :: ts))) = AV.d (rowD (false && (Tr.close :: ts).isEmpty) (Tr.close :: ts).length (Ty.cellsL (Tr.close :: ts))) := by rw [hlen]; rfl
  obtain ⟨hright, hshort⟩ := hr rfl hsm
  have hcl : closeA kindOf Tr.close = .tuple [Tr.close.agg, vint 0] := by
   unfold closeA
   rw [if_pos hright, Ty.close_close]
  have hsz := (right_pos hright).2.1
  rw [hv]
  generalize hT : Tr.close = T at hright hshort hcl hsz ⊢
  iterate 3 refine s_val rfl rfl rfl rfl ?_
  refine s_newL rfl rfl rfl rfl (by repeat first | rfl | refine noL_cons (by first | rfl | exact hL) ?_ | refine noL_l rfl ?_) ?_
  refine s_val rfl rfl rfl rfl ?_
  refine s_setL rfl (o_storeL rfl rfl rfl rfl rfl rfl rfl rfl (Nat.le_refl 3)) rfl ?_
  refine s_nil <| s_seq <| s_seq <| s_region ?_
  iterate 3 refine s_val rfl rfl rfl rfl ?_
  refine s_nil <| s_cond_f rfl <| s_skip <| s_seq <| s_region ?_
  iterate 10 refine s_val rfl rfl rfl rfl ?_
  refine s_nil <| s_seq <| s_region <| s_val rfl rfl rfl rfl <| s_val rfl rfl rfl rfl ?_
  refine s_val rfl (o_indexV rfl rfl rfl (rowD_at (b := false) (az := T :: ts) (i := 0) (Nat.succ_pos _))) rfl rfl ?_
  refine s_val rfl (o_loadV rfl rfl head_load) rfl rfl ?_
  refine s_ret1 (close_ret kindOk hshort (by omega)) rfl rfl rfl rfl ?_
  rintro _ h2 ⟨rfl, e2⟩
  rw [hcl]
  iterate 3 refine s_val rfl rfl rfl rfl ?_
  refine s_newL rfl rfl rfl rfl (by repeat first | rfl | refine noL_cons (by first | rfl | exact hL) ?_ | refine noL_l rfl ?_) ?_
  refine s_setL rfl (o_storeL rfl rfl rfl rfl (agg_len _) rfl (Ty.cells_isCell _) rfl (by rw [agg_len]; exact Nat.le_refl _)) rfl ?_
  refine s_val rfl rfl rfl rfl <| s_nil <| s_seq <| s_seq <| s_region <| s_val rfl rfl rfl rfl <| s_val rfl rfl rfl rfl <| s_nil <| s_cond_f rfl <| s_skip <| s_seq ?_
  refine s_drawn { ord := [0, 1, 2, 3, 4, 5, 6, 7, 8, 9], wr := 768, cl := [0, 0, 3, 7, 15, 0, 63, 0, 127, 511] } (by kernel_rfl) ?_
  iterate 5 refine d_val rfl rfl rfl rfl rfl ?_
  refine d_val rfl rfl (o_loadL rfl rfl rfl rfl (by rw [agg_put _ rfl]; exact agg_take _) (agg_zero _)) rfl rfl ?_
  refine d_val (v := exA [121] T) rfl rfl ?_ rfl rfl ?_
  ·cases T with
   | mk k n s b az =>
    show _ = some (Eff.val (.d (.agg [.str [121], .int .i64 k, .int .i64 n, .str s, rowD (b && az.isEmpty) az.length (Ty.cellsL az)])))
    have hy := rowD_cases (b && az.isEmpty) az.length (Ty.cellsL az)
    unfold Ty.agg
    simp only [Ty.cells]
    generalize rowD (b && az.isEmpty) az.length (Ty.cellsL az) = x at hy ⊢
    rcases hy with rfl | rfl <;> rfl
  refine d_val rfl rfl rfl rfl rfl ?_
  refine d_setL rfl rfl (o_storeL rfl rfl rfl rfl (exA_len _ _) rfl (exA_cell [121] T) rfl (by rw [exA_len]; exact Nat.le_refl _)) rfl ?_
  refine d_setL rfl rfl (o_storeL rfl rfl rfl rfl rfl rfl rfl rfl (Nat.le_refl 3)) rfl ?_
  refine d_nil ⟨trivial, trivial, ?_⟩
  refine s_ret ?_
  exact ⟨.inr rfl, _, allSome2 (r_cellL (v := exA [121] T) rfl rfl rfl (exA_take _ _ rfl) (exA_one _ _)) (r_cellL rfl rfl rfl rfl rfl), .inr (.inr ⟨rfl, hsm, by rw [hT]; rfl⟩)⟩
theorem typed_ret {h : Hp} {nv : AV} (hL : nv.isL = false) {e : Nat} {Ta Tb Tr : Ty} (hI : ∀ h', h' = h → Ret ctx Or Xo 14 [.d baseD, nv, .d nodesD] h' (fun v _ => InfA e Ta Tb Tr v)) (hr : e = 0 → Tr.size ≤ 300 → Tr.close.right kindOf = true ∧ Tr.close.Short)
  {s : List UInt8} (hshow : e = 0 → Tr.size ≤ 300 → ∀ h, Ret ctx Or Xo 34 [Tr.close.agg] h (fun v h' => v = .tuple [.d (.str s), vint 0] ∧ h' = h)) :
  Ret ctx Or Xo 26 [.d (.str srcT), nv] h (fun v _ => TypA e Ta Tb Tr s v) := by
 refine body (env := [(0, .d (.str srcT)), (1, nv)]) (rs := [.tmp 4, .cell 5 35]) Tryz.func26 rfl rfl Tryz.ntmps26 rfl rfl ?_
 refine s_seq <| s_region <| s_val rfl rfl rfl rfl ?_
 refine s_newL rfl rfl rfl rfl (by repeat first | rfl | refine noL_cons (by first | rfl | exact hL) ?_ | refine noL_l rfl ?_) ?_
 refine s_nil <| s_seq <| s_region <| s_val rfl rfl rfl rfl ?_
 refine s_ret1 (one_ret _) rfl rfl rfl rfl ?_
 rintro _ hz ⟨rfl, hze⟩
 subst hze
 iterate 3 refine s_val rfl rfl rfl rfl ?_
 refine s_newL rfl rfl rfl rfl (by repeat first | rfl | refine noL_cons (by first | rfl | exact hL) ?_ | refine noL_l rfl ?_) ?_
 refine s_val rfl rfl rfl rfl ?_
 refine s_setL rfl (o_storeL rfl rfl rfl rfl rfl rfl rfl rfl (Nat.le_refl 3)) rfl ?_
 refine s_nil <| s_seq <| s_seq <| s_region ?_
 iterate 3 refine s_val rfl rfl rfl rfl ?_
 refine s_nil <| s_cond_f rfl <| s_skip <| s_seq <| s_region ?_
 refine s_ret1 (base_ret _) rfl rfl rfl rfl ?_
 rintro _ hz ⟨rfl, hze⟩
 subst hze
 refine s_val rfl rfl rfl rfl <| s_val rfl rfl rfl rfl ?_
 refine s_ret1 (scheme_ret hL hI hr) rfl (c_val rfl rfl rfl (args3 rfl rfl rfl hL rfl rfl)) rfl rfl ?_
 rintro va h1 hA
 rcases hA with ⟨he0, rfl⟩ | ⟨rfl, hbig, f, t, rfl⟩ | ⟨rfl, hsm, rfl⟩
 ·obtain ⟨c, hc, hce⟩ := codes e
  rw [hce]
  rcases hc with rfl | rfl
  ·skip
   iterate 3 refine s_val rfl rfl rfl rfl ?_
   refine s_newL rfl rfl rfl rfl (by repeat first | rfl | refine noL_cons (by first | rfl | exact hL) ?_ | refine noL_l rfl ?_) ?_
   refine s_setL rfl (o_storeL rfl rfl rfl rfl (exA_len _ _) rfl (exA_cell _ _) rfl (by rw [exA_len]; exact Nat.le_refl _)) rfl ?_
   refine s_setL rfl (o_storeL rfl rfl rfl rfl rfl rfl rfl rfl (Nat.le_refl 3)) rfl ?_
   refine s_nil <| s_seq <| s_seq <| s_region ?_
   iterate 3 refine s_val rfl rfl rfl rfl ?_
   refine s_nil <| s_cond_t rfl <| s_seq ?_
   refine s_drawn { ord := [0, 1, 2], wr := 4, cl := [0, 0, 3] } (by kernel_rfl) ?_
   refine d_val rfl rfl rfl rfl rfl <| d_val rfl rfl rfl rfl rfl ?_
   refine d_setL rfl rfl (o_storeL rfl rfl rfl rfl rfl rfl rfl rfl (Nat.le_refl 3)) rfl ?_
   refine d_nil ⟨trivial, trivial, ?_⟩
   refine s_ret ?_
   exact ⟨.inr rfl, _, allSome2 (r_tmp rfl rfl) (r_cellL rfl rfl rfl rfl rfl), .inl ⟨he0, by rw [hce]; rfl⟩⟩
  ·skip
   iterate 3 refine s_val rfl rfl rfl rfl ?_
   refine s_newL rfl rfl rfl rfl (by repeat first | rfl | refine noL_cons (by first | rfl | exact hL) ?_ | refine noL_l rfl ?_) ?_
   refine s_setL rfl (o_storeL rfl rfl rfl rfl (exA_len _ _) rfl (exA_cell _ _) rfl (by rw [exA_len]; exact Nat.le_refl _)) rfl ?_
   refine s_setL rfl (o_storeL rfl rfl rfl rfl rfl rfl rfl rfl (Nat.le_refl 3)) rfl ?_
   refine s_nil <| s_seq <| s_seq <| s_region ?_
   iterate 3 refine s_val rfl rfl rfl rfl ?_
   refine s_nil <| s_cond_t rfl <| s_seq ?_
   refine s_drawn { ord := [0, 1, 2], wr := 4, cl := [0, 0, 3] } (by kernel_rfl) ?_
   refine d_val rfl rfl rfl rfl rfl <| d_val rfl rfl rfl rfl rfl ?_
   refine d_setL rfl rfl (o_storeL rfl rfl rfl rfl rfl rfl rfl rfl (Nat.le_refl 3)) rfl ?_
   refine d_nil ⟨trivial, trivial, ?_⟩
   refine s_ret ?_
   exact ⟨.inr rfl, _, allSome2 (r_tmp rfl rfl) (r_cellL rfl rfl rfl rfl rfl), .inl ⟨he0, by rw [hce]; rfl⟩⟩
 ·skip
  iterate 3 refine s_val rfl rfl rfl rfl ?_
  refine s_newL rfl rfl rfl rfl (by repeat first | rfl | refine noL_cons (by first | rfl | exact hL) ?_ | refine noL_l rfl ?_) ?_
  refine s_setL rfl (o_storeL rfl rfl rfl rfl (exA_len _ _) rfl (exA_cell _ _) rfl (by rw [exA_len]; exact Nat.le_refl _)) rfl ?_
  refine s_setL rfl (o_storeL rfl rfl rfl rfl rfl rfl rfl rfl (Nat.le_refl 3)) rfl ?_
  refine s_nil <| s_seq <| s_seq <| s_region ?_
  iterate 3 refine s_val rfl rfl rfl rfl ?_
  refine s_nil <| s_cond_t rfl <| s_seq ?_
  refine s_drawn { ord := [0, 1, 2], wr := 4, cl := [0, 0, 3] } (by kernel_rfl) ?_
  refine d_val rfl rfl rfl rfl rfl <| d_val rfl rfl rfl rfl rfl ?_
  refine d_setL rfl rfl (o_storeL rfl rfl rfl rfl rfl rfl rfl rfl (Nat.le_refl 3)) rfl ?_
  refine d_nil ⟨trivial, trivial, ?_⟩
  refine s_ret ?_
  exact ⟨.inr rfl, _, allSome2 (r_tmp rfl rfl) (r_cellL rfl rfl rfl rfl rfl), .inr (.inl ⟨rfl, hbig, f, t, rfl⟩)⟩
 ·have hsh := hshow rfl hsm
  generalize hT : Tr.close = T at hsh ⊢
  iterate 3 refine s_val rfl rfl rfl rfl ?_
  refine s_newL rfl rfl rfl rfl (by repeat first | rfl | refine noL_cons (by first | rfl | exact hL) ?_ | refine noL_l rfl ?_) ?_
  refine s_setL rfl (o_storeL rfl rfl rfl rfl (exA_len _ _) rfl (exA_cell _ _) rfl (by rw [exA_len]; exact Nat.le_refl _)) rfl ?_
  refine s_setL rfl (o_storeL rfl rfl rfl rfl rfl rfl rfl rfl (Nat.le_refl 3)) rfl ?_
  refine s_nil <| s_seq <| s_seq <| s_region ?_
  iterate 3 refine s_val rfl rfl rfl rfl ?_
  refine s_nil <| s_cond_f rfl <| s_skip <| s_seq <| s_region <| s_val rfl rfl rfl rfl ?_
  refine s_val rfl (o_loadL (v := T.agg) rfl rfl rfl rfl (exA_type _ _ rfl) (agg_zero T)) rfl rfl ?_
  refine s_ret1 (hsh _) rfl rfl rfl rfl ?_
  rintro _ hz ⟨rfl, hze⟩
  subst hze
  iterate 5 refine s_val rfl rfl rfl rfl ?_
  refine s_nil <| s_seq ?_
  refine s_drawn { ord := [0, 1, 2, 3], wr := 8, cl := [0, 0, 1, 7] } (by kernel_rfl) ?_
  iterate 3 refine d_val rfl rfl rfl rfl rfl ?_
  refine d_setL rfl rfl (o_storeL rfl rfl rfl rfl rfl rfl rfl rfl (Nat.le_refl 3)) rfl ?_
  refine d_nil ⟨trivial, trivial, ?_⟩
  refine s_ret ?_
  exact ⟨.inr rfl, _, allSome2 (r_tmp rfl rfl) (r_cellL rfl rfl rfl rfl rfl), .inr (.inr ⟨rfl, hsm, rfl⟩)⟩
end Go.Dv.Us
/- InferUses: it answers true. -/
namespace Go.Dv.Us
open Go.Dv.K Go.Proofs
/-- What may be handed in. -/
structure Fine (t : Ty) : Prop where
 all : ∀ q ∈ t.pre, q.name.length ≤ 2 ^ 30 ∧ q.args.length ≤ 2 ^ 30
 size : t.size ≤ 2 ^ 40
theorem rename_fit {K : List UInt8 → Int} {f : Nat → Nat} : ∀ (t : Ty), t.Fit K → (∀ v ∈ t.vars, f v < 1073741824) → (t.rename f).Fit K := by
 intro t
 induction t using Ty.ind with
 | h k n s b az ih =>
  intro hf hv
  obtain ⟨h1, h2⟩ := Ty.fit_mk.1 hf
  have hc := fits_cases.1 h1
  by_cases hk : k = 1
  ·subst hk
   simp only [Ty.rename, if_true]
   rw [Ty.fit_mk, fits_cases]
   have := hv n.toNat (by simp [Ty.vars])
   exact ⟨.var (Int.natCast_nonneg _) (by omega), fun a ha => by simp at ha⟩
  ·simp only [Ty.rename, if_neg hk]
   rw [Ty.fit_mk, fits_cases]
   simp only [Ty.vars, if_neg hk] at hv
   have hl : (Ty.renameL f az).length = az.length := by rw [Ty.renameL_eq, List.length_map]
   refine ⟨?_, fun a ha => ?_⟩
   ·cases hc with
    | var => exact absurd rfl hk
    | con h => exact .con h
    | pair h => exact .pair (by rw [hl]; exact h)
    | arrow h => exact .arrow (by rw [hl]; exact h)
   ·rw [Ty.renameL_eq] at ha
    obtain ⟨c, hc, rfl⟩ := List.mem_map.1 ha
    exact ih c hc (h2 c hc) fun v hvc => hv v (Ty.mem_varsL.2 ⟨c, hc, hvc⟩)
theorem fit_var {K : List UInt8 → Int} {t : Ty} (h : t.Fit K) : ∀ q ∈ t.pre, q.kind = 1 → q.args = [] := by
 intro q hq hk
 have := h q hq
 cases q with
 | mk k n s b az =>
  simp only [Ty.kind] at hk
  subst hk
  cases fits_cases.1 this with
  | var => rfl
theorem self_pre (t : Ty) : t ∈ t.pre := by cases t; simp [Ty.pre]
theorem rename_size {K : List UInt8 → Int} {f : Nat → Nat} {t : Ty} (h : t.Fit K) : (t.rename f).size = t.size := Ty.size_rename f t (fit_var h t (self_pre t)) (fit_var h)
theorem close_fit {K : List UInt8 → Int} {t : Ty} (h : t.Fit K) (hs : t.size ≤ 300) : t.close.Fit K ∧ t.close.size = t.size :=
 ⟨rename_fit t h fun v hv => by have := idx_close hv; omega, rename_size h⟩
theorem fit_right {K : List UInt8 → Int} {t : Ty} (h : t.Fit K) (hs : t.size ≤ 300) : t.right K = true := by
 unfold Ty.right
 rw [Bool.and_eq_true, List.all_eq_true]
 exact ⟨decide_eq_true hs, h⟩
/-- Names in a renamed type are names of the type. -/
theorem rename_names {f : Nat → Nat} {n : Nat} : ∀ (t : Ty), (∀ q ∈ t.pre, q.name.length ≤ n) → ∀ q ∈ (t.rename f).pre, q.name.length ≤ n := by
 intro t
 induction t using Ty.ind with
 | h k m s b az ih =>
  intro h q hq
  by_cases hk : k = 1
  ·simp only [Ty.rename, if_pos hk, Ty.pre, Ty.preL, List.mem_cons, List.not_mem_nil, or_false] at hq
   subst hq
   exact Nat.zero_le _
  ·simp only [Ty.rename, if_neg hk, Ty.pre, List.mem_cons] at hq
   rcases hq with h1 | h1
   ·subst h1; exact h (.mk k m s b az) (by simp [Ty.pre])
   ·rw [mem_preL, Ty.renameL_eq] at h1
    obtain ⟨a, ha, hqa⟩ := h1
    obtain ⟨c, hc, rfl⟩ := List.mem_map.1 ha
    exact ih c hc (fun q' hq' => h q' (by simp only [Ty.pre, List.mem_cons]; exact .inr (mem_preL.2 ⟨c, hc, hq'⟩))) q hqa
theorem fit_short {t : Ty} (h : t.Fit kindOf) (hn : ∀ q ∈ t.pre, q.name.length ≤ 1600) : t.Fit shortK := by
 intro q hq
 have h1 := h q hq
 have h2 := hn q hq
 cases q with
 | mk k n s b az =>
  rw [fits_cases] at h1 ⊢
  cases h1 with
  | var a b => exact .var a b
  | con hk => exact .con (by unfold shortK; rw [if_pos (show s.length ≤ 1600 from h2)]; exact hk)
  | pair h => exact .pair h
  | arrow h => exact .arrow h
theorem short_fit {t : Ty} (h : t.Fit shortK) : t.Fit kindOf ∧ ∀ q ∈ t.pre, q.name.length ≤ 1600 := by
 refine ⟨fun q hq => ?_, fun q hq => ?_⟩
 ·have h1 := h q hq
  cases q with
  | mk k n s b az =>
   rw [fits_cases] at h1 ⊢
   cases h1 with
   | var a b => exact .var a b
   | con hk =>
    unfold shortK at hk
    split at hk
    ·exact .con hk
    ·cases hk
   | pair h => exact .pair h
   | arrow h => exact .arrow h
 ·have h1 := h q hq
  cases q with
  | mk k n s b az =>
   rw [fits_cases] at h1
   show s.length ≤ 1600
   cases h1 with
   | var a b => exact Nat.zero_le _
   | con hk =>
    unfold shortK at hk
    split at hk
    ·assumption
    ·cases hk
   | pair h => exact Nat.zero_le _
   | arrow h => exact Nat.zero_le _
theorem ink_le : ∀ (t : Ty), (∀ q ∈ t.pre, q.name.length ≤ 1600) → t.ink + 10 ≤ 1640 * t.size := by
 intro t
 induction t using Ty.ind with
 | h k n s b az ih =>
  intro h
  have hs : s.length ≤ 1600 := h (.mk k n s b az) (by simp [Ty.pre])
  have key : ∀ l : List Ty, (∀ a ∈ l, a.ink + 10 ≤ 1640 * a.size) → Ty.inkL l + 10 * l.length ≤ 1640 * Ty.sizeL l := by
   intro l
   induction l with
   | nil => intro _; exact Nat.le_refl _
   | cons a l ih2 =>
    intro h
    have h1 := h a (by simp)
    have h2 := ih2 fun x hx => h x (by simp [hx])
    simp only [Ty.inkL, Ty.sizeL, List.length_cons]; omega
  have := key az fun a ha => ih a ha fun q hq => h q (by simp only [Ty.pre, List.mem_cons]; exact .inr (mem_preL.2 ⟨a, ha, hq⟩))
  simp only [Ty.ink, Ty.size]; omega
theorem close_num {t : Ty} (hs : t.size ≤ 300) : ∀ q ∈ t.close.pre, q.kind = 1 → q.num < 300 := by
 have key : ∀ (f : Nat → Nat) (t : Ty), (∀ v ∈ t.vars, f v < 300) → ∀ q ∈ (t.rename f).pre, q.kind = 1 → q.num < 300 := by
  intro f t
  induction t using Ty.ind with
  | h k n s b az ih =>
   intro hv q hq hqk
   by_cases hk : k = 1
   ·simp only [Ty.rename, if_pos hk, Ty.pre, Ty.preL, List.mem_cons, List.not_mem_nil, or_false] at hq
    subst hq
    have := hv n.toNat (by simp [Ty.vars, hk])
    show ((f n.toNat : Nat) : Int) < 300
    omega
   ·simp only [Ty.rename, if_neg hk, Ty.pre, List.mem_cons] at hq
    simp only [Ty.vars, if_neg hk] at hv
    rcases hq with h1 | h1
    ·subst h1; exact absurd hqk hk
    ·rw [mem_preL, Ty.renameL_eq] at h1
     obtain ⟨a, ha, hqa⟩ := h1
     obtain ⟨c, hc, rfl⟩ := List.mem_map.1 ha
     exact ih c hc (fun v hvc => hv v (Ty.mem_varsL.2 ⟨c, hc, hvc⟩)) q hqa hqk
 exact key _ t fun v hv => by have := idx_close hv; omega
theorem alive_ret (h : Hp) : Ret ctx Or Xo 9 [] h (fun v h' => v = vbool true ∧ h' = h) := by
 obtain ⟨h0, hb⟩ := alive_true
 exact ⟨_, _, .closed hb rfl rfl, rfl, rfl⟩
theorem exA_build {F : Ty} {A : FAnn} {ρ : Operand → Option AV} {L : Loc} {H : Nat → Option Obj} {o : Oper} {x y : Operand} {nm : List UInt8} (hop : o.op = .build 42 #[(0, x), (1, y)]) (hx : ρ x = some (.d (.str nm))) (hy : ρ y = some F.agg) : opA ctx A ρ L H o = some (.val (exA nm F)) := by
 cases F with
 | mk k n s b az =>
  unfold opA
  simp only [hop]
  have h1 : evalAll ρ [(0, x), (1, y)] = some [(0, .d (.str nm)), (1, (Ty.mk k n s b az).agg)] := by simp only [evalAll, hx, hy]
  rw [h1]
  unfold exA exCell Ty.agg
  simp only [Ty.cells]
  have hz := rowD_cases (b && az.isEmpty) az.length (Ty.cellsL az)
  generalize rowD (b && az.isEmpty) az.length (Ty.cellsL az) = z at hz ⊢
  rcases hz with rfl | rfl <;> rfl
theorem names_build {F X : Ty} {A : FAnn} {ρ : Operand → Option AV} {L : Loc} {H : Nat → Option Obj} {o : Oper} {x y : Operand} {d : Nat} (hop : o.op = .buildSlice 26 2 #[(0, x), (1, y)]) (hd : o.dst = some d) (hm : decide (d ∈ A.marr) = true) (hx : ρ x = some (exA [102] F)) (hy : ρ y = some (exA [120] X)) : opA ctx A ρ L H o = some (.newCells (namesC F X) 2 5 42) := by
 cases F with
 | mk kF nF sF bF aF =>
 cases X with
 | mk kX nX sX bX aX =>
  unfold opA
  simp only [hop, hd]
  have h1 : evalAll ρ [(0, x), (1, y)] = some [(0, exA [102] (.mk kF nF sF bF aF)), (1, exA [120] (.mk kX nX sX bX aX))] := by simp only [evalAll, hx, hy]
  rw [h1]
  unfold exA namesC exCell
  simp only [Ty.cells]
  have hz := rowD_cases (bF && aF.isEmpty) aF.length (Ty.cellsL aF)
  have hw := rowD_cases (bX && aX.isEmpty) aX.length (Ty.cellsL aX)
  generalize rowD (bF && aF.isEmpty) aF.length (Ty.cellsL aF) = z at hz ⊢
  generalize rowD (bX && aX.isEmpty) aX.length (Ty.cellsL aX) = w at hw ⊢
  have hm' := of_decide_eq_true hm
  rcases hz with rfl | rfl <;> rcases hw with rfl | rfl <;> simp only [AV.isL, List.any_cons, List.any_nil, Bool.or_false, Bool.false_or, if_pos hm'] <;> rfl
end Go.Dv.Us
