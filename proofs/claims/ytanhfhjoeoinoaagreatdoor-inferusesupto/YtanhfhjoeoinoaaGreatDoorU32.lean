/- A part of the proof of InferUses, second form: for every input of bulk at most 1048576 the call returns true and the arguments read as they did. Its condition: that bulk. -/
import Derived.Test.YtanhfhjoeoinoaaGreatDoorU31
/- name: a name of an export, on the tree of one name applied to another. -/
namespace Go.Dv.Us
open Go.Dv.K Go.Proofs
section
variable {C : Ctx} {A : FAnn} {ρ : Operand → Option AV} {L : Loc} {H : Nat → Option Obj} {o : Oper} {x k w : Operand} {id : Nat} {es es' : List (DV × AV)} {kd : DV} {t kt e : TypeId} {a1 : Nat} {a2 : Bool} {a3 : Nat} {a4 : List DV} {ei : Dv.TI} {v : AV} {ok : Bool}
theorem o_lookE (hop : o.op = .lookup t x k ok) (hx : ρ x = some (.map id)) (hk : ρ k = some (.d kd)) (ht : C.T t = some ⟨.map kt e, a1, a2, a3, a4⟩) (he : C.T e = some ei) (hko : keyOk C kt kd = true) (hg : H id = some (.map es)) (hf : findE kd es = some (some v)) : opA C A ρ L H o = some (.val (if ok then .tuple [v, vbool true] else v)) := by
 unfold opA
 simp only [hop, hx, hk, lookupA, ht, he, entriesA, hg, hko, if_true, hf, Option.map_some]
theorem o_mapUpE (hop : o.op = .mapUpdate t x k w) (hx : ρ x = some (.map id)) (hk : ρ k = some (.d kd)) (hw : ρ w = some v) (ht : C.T t = some ⟨.map kt e, a1, a2, a3, a4⟩) (hko : keyOk C kt kd = true) (hg : H id = some (.map es)) (hp : putE kd v es = some es') (hL : v.isL = false) : opA C A ρ L H o = some (.setH id (.map es') none) := by
 unfold opA
 simp only [hop, hx, hk, hw, mapUpdateA, ht, hg, hko, hL, hp]
 rfl
end
section
variable {F X : Ty} {i : TI7} {h h' : Hp} {S S' : Store} {p p' : At} {ns : List Nat}
theorem name1_ret (T : TY F X i h S p ns) (hG : F.Fit kindOf) (hs : F.Short) (hM : Made kindOf S []) (hsz : S.nodes.length + F.size ≤ 2 ^ 12) :
  Ret ctx Or Xo 159 [.ptr i.t 0 0, vint (1 : Nat), .d (.agg nd1)] h (fun v h' => v = vbool true ∧ ∃ p', TY F X i h' (S.build [] F).1 p' (ns.set 1 (S.build [] F).2.2)) := by
 refine body (env := [(0, .ptr i.t 0 0), (1, vint (1 : Nat)), (2, .d (.agg nd1))]) (rs := [.tmp 6]) Tryz.func159 rfl rfl Tryz.ntmps159 rfl rfl ?_
 refine s_seq <| s_region ?_
 refine s_newVar (cs := [.ptr i.t 0 0]) rfl rfl rfl rfl ?_
 refine s_newL rfl rfl rfl rfl rfl ?_
 refine s_val rfl rfl rfl rfl <| s_nil ?_
 have e1 : Ext h (h.newV [.ptr i.t 0 0] 94) := Ext.newV ..
 have T1 := T.ext e1
 have g1 : (h.newV [.ptr i.t 0 0] 94).get h.next = some (.cells [.ptr i.t 0 0] 0) := if_pos rfl
 have n1 : (h.newV [.ptr i.t 0 0] 94).next = h.next + 1 := rfl
 generalize h.newV [.ptr i.t 0 0] 94 = h1 at e1 T1 g1 n1 ⊢
 refine s_seq <| s_region ?_
 refine s_val rfl (o_load rfl rfl rfl g1 rfl rfl) rfl rfl ?_
 refine s_val rfl rfl rfl rfl <| s_val rfl rfl rfl rfl ?_
 refine s_val rfl (o_load rfl rfl rfl T1.gt rfl rfl) rfl rfl ?_
 refine s_val rfl rfl rfl rfl <| s_val rfl rfl rfl rfl ?_
 refine s_val rfl (o_load rfl rfl rfl T1.gr rfl rfl) rfl rfl ?_
 refine s_val rfl rfl rfl rfl <| s_val rfl rfl rfl rfl ?_
 refine s_val rfl (o_load rfl rfl rfl T1.gm rfl rfl) rfl rfl ?_
 refine s_val rfl rfl rfl rfl <| s_nil <| s_seq <| s_seq <| s_region <| s_val rfl rfl rfl rfl <| s_val rfl rfl rfl rfl <| s_nil <| s_cond_t rfl <| s_seq ?_
 have e2 : Ext h1 (h1.alloc (.map [])) := Ext.alloc ..
 have T2 := T1.ext e2
 have g2 : (h1.alloc (.map [])).get h.next = some (.cells [.ptr i.t 0 0] 0) := (e2.keep _ (by omega)).trans g1
 refine s_drawn { ord := [0, 1, 2, 3, 4, 5, 6, 7, 8, 9, 10, 11, 12, 13, 14, 15, 16, 17, 18, 19], wr := 720896, fl := [(0, 17), (0, 18), (3, 17), (3, 18), (5, 17), (6, 17), (9, 17), (12, 17), (14, 17), (15, 17)], cl := [0, 1, 3, 7, 0, 0, 0, 64, 192, 448, 960, 1984, 4032, 0, 8192, 32704, 0, 131040, 262143, 524287] } (by kernel_rfl) ?_
 refine d_val rfl rfl (o_load rfl rfl rfl g1 rfl rfl) rfl rfl ?_
 refine d_val rfl rfl rfl rfl rfl <| d_val rfl rfl rfl rfl rfl ?_
 refine d_val rfl rfl (o_load rfl rfl rfl T1.gt rfl rfl) rfl rfl ?_
 refine d_val rfl rfl rfl rfl rfl ?_
 refine d_val rfl rfl (o_load rfl rfl rfl g1 rfl rfl) rfl rfl ?_
 refine d_val rfl rfl (o_load rfl rfl rfl g1 rfl rfl) rfl rfl ?_
 refine d_val rfl rfl rfl rfl rfl <| d_val rfl rfl rfl rfl rfl ?_
 refine d_val rfl rfl (o_load rfl rfl rfl T1.gt rfl rfl) rfl rfl ?_
 refine d_val rfl rfl rfl rfl rfl <| d_val rfl rfl rfl rfl rfl ?_
 refine d_val rfl rfl (o_load rfl rfl rfl T1.gr rfl rfl) rfl rfl ?_
 refine d_val rfl rfl rfl rfl rfl <| d_val rfl rfl rfl rfl rfl ?_
 refine d_val rfl rfl (o_lookE rfl rfl rfl rfl rfl rfl T1.ge (v := F.agg) rfl) rfl rfl ?_
 refine d_newMap rfl rfl rfl rfl rfl ?_
 refine d_ret1 (build_ret F hG hs (m := []) (p := p) (mp := h1.next) ⟨T2.hS, if_pos rfl, fun h3 => by have := T1.hS.toRows4.olt _ h3; omega, Nat.lt_succ_self _⟩ (T2.ts (by have := (T1.no i.t (by simp)).2; omega)) hM hsz) rfl rfl rfl rfl rfl ?_
 rintro _ h3 ⟨rfl, p3, B3, F3⟩
 have F4 : Fram h1 h3 (p.own i.s) (p3.own i.s) := F3.new' e2 (Nat.le_refl _)
 have T3 := T1.fram B3.hS F4
 have g3 : h3.get h.next = some (.cells [.ptr i.t 0 0] 0) := (F4.keep _ (by omega) (fun h5 => by have := T.hS.toRows4.olt _ h5; omega)).trans g1
 refine d_val rfl rfl (o_index rfl rfl rfl rfl rfl rfl (by decide) (by decide)) rfl rfl ?_
 refine d_setH rfl rfl (o_store1 rfl rfl rfl rfl rfl rfl rfl rfl T3.gn (by rw [nats_length, T.len]; exact Nat.le_of_ble_eq_true rfl)) rfl ?_
 refine d_nil ⟨⟨fun _ ho _ => by cases ho; exact (o_load rfl rfl rfl g2 rfl rfl).trans (o_load rfl rfl rfl g1 rfl rfl).symm, fun _ ho _ => by cases ho; exact (o_load rfl rfl rfl g3 rfl rfl).trans (o_load rfl rfl rfl g1 rfl rfl).symm, fun _ ho _ => by cases ho; exact (o_load rfl rfl rfl T2.gt rfl rfl).trans (o_load rfl rfl rfl T1.gt rfl rfl).symm, fun _ ho _ => by cases ho; exact (o_load rfl rfl rfl T3.gt rfl rfl).trans (o_load rfl rfl rfl T1.gt rfl rfl).symm, fun _ ho _ => by cases ho; exact (o_load rfl rfl rfl g2 rfl rfl).trans (o_load rfl rfl rfl g1 rfl rfl).symm, fun _ ho _ => by cases ho; exact (o_load rfl rfl rfl g2 rfl rfl).trans (o_load rfl rfl rfl g1 rfl rfl).symm, fun _ ho _ => by cases ho; exact (o_load rfl rfl rfl T2.gt rfl rfl).trans (o_load rfl rfl rfl T1.gt rfl rfl).symm, fun _ ho _ => by cases ho; exact (o_load rfl rfl rfl T2.gr rfl rfl).trans (o_load rfl rfl rfl T1.gr rfl rfl).symm, fun _ ho _ => by cases ho; rfl, fun _ ho _ => by cases ho; exact (o_lookE rfl rfl rfl rfl rfl rfl T2.ge (v := F.agg) rfl).trans (o_lookE rfl rfl rfl rfl rfl rfl T1.ge (v := F.agg) rfl).symm, trivial⟩, trivial, ?_⟩
 refine s_seq <| s_region <| s_val rfl rfl rfl rfl <| s_nil <| s_ret ?_
 have T4 := T3.set (ns' := ns.set 1 (S.build [] F).2.2) (by rw [List.length_set]; exact T.len)
 rw [← putNs (by rw [T.len]; decide)] at T4
 exact ⟨.inr rfl, _, rfl, rfl, p3, T4⟩
theorem name2_ret (T : TY F X i h S p ns) (hG : X.Fit kindOf) (hs : X.Short) (hM : Made kindOf S []) (hsz : S.nodes.length + X.size ≤ 2 ^ 12) :
  Ret ctx Or Xo 159 [.ptr i.t 0 0, vint (2 : Nat), .d (.agg nd2)] h (fun v h' => v = vbool true ∧ ∃ p', TY F X i h' (S.build [] X).1 p' (ns.set 2 (S.build [] X).2.2)) := by
 refine body (env := [(0, .ptr i.t 0 0), (1, vint (2 : Nat)), (2, .d (.agg nd2))]) (rs := [.tmp 6]) Tryz.func159 rfl rfl Tryz.ntmps159 rfl rfl ?_
 refine s_seq <| s_region ?_
 refine s_newVar (cs := [.ptr i.t 0 0]) rfl rfl rfl rfl ?_
 refine s_newL rfl rfl rfl rfl rfl ?_
 refine s_val rfl rfl rfl rfl <| s_nil ?_
 have e1 : Ext h (h.newV [.ptr i.t 0 0] 94) := Ext.newV ..
 have T1 := T.ext e1
 have g1 : (h.newV [.ptr i.t 0 0] 94).get h.next = some (.cells [.ptr i.t 0 0] 0) := if_pos rfl
 have n1 : (h.newV [.ptr i.t 0 0] 94).next = h.next + 1 := rfl
 generalize h.newV [.ptr i.t 0 0] 94 = h1 at e1 T1 g1 n1 ⊢
 refine s_seq <| s_region ?_
 refine s_val rfl (o_load rfl rfl rfl g1 rfl rfl) rfl rfl ?_
 refine s_val rfl rfl rfl rfl <| s_val rfl rfl rfl rfl ?_
 refine s_val rfl (o_load rfl rfl rfl T1.gt rfl rfl) rfl rfl ?_
 refine s_val rfl rfl rfl rfl <| s_val rfl rfl rfl rfl ?_
 refine s_val rfl (o_load rfl rfl rfl T1.gr rfl rfl) rfl rfl ?_
 refine s_val rfl rfl rfl rfl <| s_val rfl rfl rfl rfl ?_
 refine s_val rfl (o_load rfl rfl rfl T1.gm rfl rfl) rfl rfl ?_
 refine s_val rfl rfl rfl rfl <| s_nil <| s_seq <| s_seq <| s_region <| s_val rfl rfl rfl rfl <| s_val rfl rfl rfl rfl <| s_nil <| s_cond_t rfl <| s_seq ?_
 have e2 : Ext h1 (h1.alloc (.map [])) := Ext.alloc ..
 have T2 := T1.ext e2
 have g2 : (h1.alloc (.map [])).get h.next = some (.cells [.ptr i.t 0 0] 0) := (e2.keep _ (by omega)).trans g1
 refine s_drawn { ord := [0, 1, 2, 3, 4, 5, 6, 7, 8, 9, 10, 11, 12, 13, 14, 15, 16, 17, 18, 19], wr := 720896, fl := [(0, 17), (0, 18), (3, 17), (3, 18), (5, 17), (6, 17), (9, 17), (12, 17), (14, 17), (15, 17)], cl := [0, 1, 3, 7, 0, 0, 0, 64, 192, 448, 960, 1984, 4032, 0, 8192, 32704, 0, 131040, 262143, 524287] } (by kernel_rfl) ?_
 refine d_val rfl rfl (o_load rfl rfl rfl g1 rfl rfl) rfl rfl ?_
 refine d_val rfl rfl rfl rfl rfl <| d_val rfl rfl rfl rfl rfl ?_
 refine d_val rfl rfl (o_load rfl rfl rfl T1.gt rfl rfl) rfl rfl ?_
 refine d_val rfl rfl rfl rfl rfl ?_
 refine d_val rfl rfl (o_load rfl rfl rfl g1 rfl rfl) rfl rfl ?_
 refine d_val rfl rfl (o_load rfl rfl rfl g1 rfl rfl) rfl rfl ?_
 refine d_val rfl rfl rfl rfl rfl <| d_val rfl rfl rfl rfl rfl ?_
 refine d_val rfl rfl (o_load rfl rfl rfl T1.gt rfl rfl) rfl rfl ?_
 refine d_val rfl rfl rfl rfl rfl <| d_val rfl rfl rfl rfl rfl ?_
 refine d_val rfl rfl (o_load rfl rfl rfl T1.gr rfl rfl) rfl rfl ?_
 refine d_val rfl rfl rfl rfl rfl <| d_val rfl rfl rfl rfl rfl ?_
 refine d_val rfl rfl (o_lookE rfl rfl rfl rfl rfl rfl T1.ge (v := X.agg) rfl) rfl rfl ?_
 refine d_newMap rfl rfl rfl rfl rfl ?_
 refine d_ret1 (build_ret X hG hs (m := []) (p := p) (mp := h1.next) ⟨T2.hS, if_pos rfl, fun h3 => by have := T1.hS.toRows4.olt _ h3; omega, Nat.lt_succ_self _⟩ (T2.ts (by have := (T1.no i.t (by simp)).2; omega)) hM hsz) rfl rfl rfl rfl rfl ?_
 rintro _ h3 ⟨rfl, p3, B3, F3⟩
 have F4 : Fram h1 h3 (p.own i.s) (p3.own i.s) := F3.new' e2 (Nat.le_refl _)
 have T3 := T1.fram B3.hS F4
 have g3 : h3.get h.next = some (.cells [.ptr i.t 0 0] 0) := (F4.keep _ (by omega) (fun h5 => by have := T.hS.toRows4.olt _ h5; omega)).trans g1
 refine d_val rfl rfl (o_index rfl rfl rfl rfl rfl rfl (by decide) (by decide)) rfl rfl ?_
 refine d_setH rfl rfl (o_store1 rfl rfl rfl rfl rfl rfl rfl rfl T3.gn (by rw [nats_length, T.len]; exact Nat.le_of_ble_eq_true rfl)) rfl ?_
 refine d_nil ⟨⟨fun _ ho _ => by cases ho; exact (o_load rfl rfl rfl g2 rfl rfl).trans (o_load rfl rfl rfl g1 rfl rfl).symm, fun _ ho _ => by cases ho; exact (o_load rfl rfl rfl g3 rfl rfl).trans (o_load rfl rfl rfl g1 rfl rfl).symm, fun _ ho _ => by cases ho; exact (o_load rfl rfl rfl T2.gt rfl rfl).trans (o_load rfl rfl rfl T1.gt rfl rfl).symm, fun _ ho _ => by cases ho; exact (o_load rfl rfl rfl T3.gt rfl rfl).trans (o_load rfl rfl rfl T1.gt rfl rfl).symm, fun _ ho _ => by cases ho; exact (o_load rfl rfl rfl g2 rfl rfl).trans (o_load rfl rfl rfl g1 rfl rfl).symm, fun _ ho _ => by cases ho; exact (o_load rfl rfl rfl g2 rfl rfl).trans (o_load rfl rfl rfl g1 rfl rfl).symm, fun _ ho _ => by cases ho; exact (o_load rfl rfl rfl T2.gt rfl rfl).trans (o_load rfl rfl rfl T1.gt rfl rfl).symm, fun _ ho _ => by cases ho; exact (o_load rfl rfl rfl T2.gr rfl rfl).trans (o_load rfl rfl rfl T1.gr rfl rfl).symm, fun _ ho _ => by cases ho; rfl, fun _ ho _ => by cases ho; exact (o_lookE rfl rfl rfl rfl rfl rfl T2.ge (v := X.agg) rfl).trans (o_lookE rfl rfl rfl rfl rfl rfl T1.ge (v := X.agg) rfl).symm, trivial⟩, trivial, ?_⟩
 refine s_seq <| s_region <| s_val rfl rfl rfl rfl <| s_nil <| s_ret ?_
 have T4 := T3.set (ns' := ns.set 2 (S.build [] X).2.2) (by rw [List.length_set]; exact T.len)
 rw [← putNs (by rw [T.len]; decide)] at T4
 exact ⟨.inr rfl, _, rfl, rfl, p3, T4⟩
end
end Go.Dv.Us
/- all: the tree of one name applied to another is typed. -/
namespace Go.Dv.Us
open Go.Dv.K Go.Proofs
theorem tie_nok {K : List UInt8 → Int} {S : Store} (hw : Wf S) (hsz : S.nodes.length + 1 ≤ 2 ^ 12) (nok : ∀ n, n < S.nodes.length → NodeOk K (S.node n)) {r : Nat} (hr : r < S.nodes.length) : ∀ n, n < (S.tie r).nodes.length → NodeOk K ((S.tie r).form n) := by
 intro n hn
 have hw' : Wf (S.tie r) := (hw.sh hsz).putAll (tie_two hw hr)
 have h2 := form_get hw' hn
 rw [tie_nodes] at h2
 rcases sh_get h2 with ⟨_, h3⟩ | ⟨m, y, _, h3, h4⟩
 ·rw [h3]; exact .var
 ·rw [h4]
  have hm : m < S.nodes.length := (List.getElem?_eq_some_iff.1 h3).1
  have hy : S.node m = y := by unfold Store.node; rw [List.getD_eq_getElem?_getD, h3]; rfl
  have := nok m hm
  rw [hy] at this
  exact this.sh
theorem sh0 : store0.add varN = store0.sh := rfl
theorem chain1 (F : Ty) : (store0.add varN).build [] F = ((store0.build [] F).1.sh, shv (store0.build [] F).2.1, (store0.build [] F).2.2 + 1) := by
 rw [sh0]; exact sh_build F (S := store0) (m := [])
theorem chain2 (S : Store) (X : Ty) : S.sh.build [] X = ((S.build [] X).1.sh, shv (S.build [] X).2.1, (S.build [] X).2.2 + 1) := sh_build X (S := S) (m := [])
section
variable {F X : Ty} {i : TI7} {h : Hp} {p : At}
/-- What all answers. -/
def AllA (F X : Ty) (i : TI7) (S : Store) (e : Nat) (Tr : Ty) (v : AV) (h' : Hp) : Prop :=
 (e ≠ 0 ∧ v = vbool false ∧ Failed i (if e = 130 then 6 else 5) 8 11 h') ∨ (e = 0 ∧ 300 < Tr.size ∧ v = vbool false ∧ Failed i 7 4 5 h') ∨
 (e = 0 ∧ Tr.size ≤ 300 ∧ v = vbool true ∧ ∃ p', TY F X i h' (S.tie (use4 F X).r) p' [0, (use4 F X).a + 1, (use4 F X).b + 1, (use4 F X).r + 1, 0])
theorem all_ret (T : TY F X i h store0 p [0, 0, 0, 0, 0]) (hF : F.Fit kindOf) (hX : X.Fit kindOf) (sF : F.Short) (sX : X.Short) (zF : F.size ≤ 300) (zX : X.size ≤ 300) {kk : Nat} (hk1 : kk ≤ 2 ^ 25) (hk2 : 2 ^ 25 ≤ kk) {S : Store} {e : Nat}
  (hu : (use4 F X).S.unify kk (use4 F X).a (use4 F X).c = some (S, e)) (he : e = 131 ∨ e = 130 ∨ e = 0) {Ta Tb Tr : Ty} (h0 : e = 0 → Unified kindOf (use4 F X) S Ta Tb Tr) :
  Ret ctx Or Xo 50 [.ptr i.t 0 0] h (AllA F X i S e Tr) := by
 have hU := use4_ok hF hX zF zX
 have hM0 : Made kindOf (store0.add varN) [] := made0.add (x := varN) .var (fun a ha => by simp [varN] at ha) (by decide) (by decide) (fun _ => rfl)
 have hl0 : (store0.add varN).nodes.length = 1 := rfl
 obtain ⟨M1, a1, g1⟩ := build_made F hF hM0 (by omega)
 have l1 := g1.most
 have c1 := chain1 F
 have hu' := sh_unify hU.made.wf (k := kk) hU.a hU.c
 rw [hu] at hu'
 have hlenU := hU.len
 have hUa := hU.a
 have hUb := hU.b
 have hUr := hU.r
 unfold AllA
 generalize hue : use4 F X = u at hU hu' hlenU hUa hUb hUr h0 ⊢
 have hud : u = ⟨(((store0.build [] F).1.build [] X).1.add varN).add (arrowN ((store0.build [] F).1.build [] X).2.2 ((store0.build [] F).1.build [] X).1.nodes.length), (store0.build [] F).2.2, ((store0.build [] F).1.build [] X).2.2, ((store0.build [] F).1.build [] X).1.nodes.length, ((store0.build [] F).1.build [] X).1.nodes.length + 1⟩ := by rw [← hue]; rfl
 generalize hp1 : store0.build [] F = p1 at c1 hud
 rw [c1] at M1 a1 g1 l1
 simp only at M1 a1 g1 l1
 have c2 := chain2 p1.1 X
 obtain ⟨M2, a2, g2⟩ := build_made X hX M1.map (by omega)
 have l2 := g2.most
 have l2' := g2.le
 generalize hp2 : p1.1.build [] X = p2 at c2 hud
 rw [c2] at M2 a2 g2 l2 l2'
 simp only at M2 a2 g2 l2 l2'
 have hlen2 : p2.1.sh.nodes.length = p2.1.nodes.length + 1 := sh_len
 have hua : u.a = p1.2.2 := by rw [hud]
 have hub : u.b = p2.2.2 := by rw [hud]
 have hur : u.r = p2.1.nodes.length := by rw [hud]
 have huc : u.c = p2.1.nodes.length + 1 := by rw [hud]
 have huS : u.S.sh = (p2.1.sh.add varN).add (arrowN (p2.2.2 + 1) p2.1.sh.nodes.length) := by
  rw [hud]
  simp only
  rw [sh_add', sh_add', hlen2]; rfl
 refine body (env := [(0, .ptr i.t 0 0)]) (rs := [.tmp 2]) Tryz.func50 rfl rfl Tryz.ntmps50 rfl rfl ?_
 refine s_seq <| s_region <| s_val rfl rfl rfl rfl <| s_nil <| s_seq <| s_seq <| s_region ?_
 iterate 3 refine s_val rfl rfl rfl rfl ?_
 refine s_val rfl (o_load rfl rfl rfl T.gt rfl rfl) rfl rfl ?_
 refine s_val rfl rfl rfl rfl <| s_val rfl rfl rfl rfl ?_
 refine s_val rfl (o_load rfl rfl rfl T.gr rfl rfl) rfl rfl ?_
 refine s_val rfl rfl rfl rfl <| s_val rfl rfl rfl rfl <| s_nil <| s_block ?_
 refine s_loop ?_
 refine wpR_less (σ' := ⟨[(0, .ptr i.t 0 0), (11, .d nodesD), (12, vint (5 : Nat)), (13, vint (0 : Nat))], [], h⟩) ⟨⟨rfl, rfl, rfl, rfl, trivial⟩, trivial, rfl⟩ ?_
 refine wpR_round ?_
 refine s_seq <| s_region <| s_val rfl rfl rfl rfl <| s_nil <| s_seq <| s_cond_t rfl <| s_skip <| s_seq <| s_block <| s_seq <| s_region ?_
 iterate 3 refine s_val rfl rfl rfl rfl ?_
 refine s_newL rfl rfl rfl rfl rfl ?_
 refine s_val rfl rfl rfl rfl ?_
 refine s_setL rfl rfl rfl ?_
 refine s_nil <| s_seq <| s_seq ?_
 refine s_drawn { ord := [0, 1, 2, 3, 4, 5, 6, 7], wr := 72, fl := [(5, 0)], cl := [0, 0, 2, 7, 0, 0, 63, 127] } (by kernel_rfl) ?_
 iterate 3 refine d_val rfl rfl rfl rfl rfl ?_
 refine d_ret1 (way_ret (k := 4) (.inl ⟨rfl, rfl⟩)) rfl rfl rfl rfl rfl ?_
 rintro _ _ ⟨rfl, rfl⟩
 refine d_val rfl rfl rfl rfl rfl <| d_val rfl rfl rfl rfl rfl ?_
 refine d_ret1 (fresh_ret T (by decide) (k := 0) (by decide)) rfl rfl rfl rfl rfl ?_
 rintro _ h1 ⟨rfl, q1, T1⟩
 refine d_val rfl rfl rfl rfl rfl ?_
 refine d_nil ⟨⟨fun _ ho _ => by cases ho; rfl, trivial⟩, trivial, ?_⟩
 refine s_cond_f rfl <| s_skip <| s_seq <| s_region ?_
 iterate 3 refine s_val rfl rfl rfl rfl ?_
 refine s_val rfl (o_load rfl rfl rfl T1.gt rfl rfl) rfl rfl ?_
 refine s_val rfl rfl rfl rfl <| s_val rfl rfl rfl rfl ?_
 refine s_val rfl (o_load rfl rfl rfl T1.gl rfl rfl) rfl rfl ?_
 refine s_val rfl rfl rfl rfl <| s_val rfl rfl rfl rfl ?_
 iterate 10 refine s_no rfl rfl rfl ?_
 refine s_val rfl rfl rfl rfl <| s_nil <| s_cond_f rfl <| s_skip <| s_region <| s_val rfl rfl rfl rfl <| s_val rfl rfl rfl rfl <| s_nil ?_
 refine wpR_less (σ' := ⟨[(0, .ptr i.t 0 0), (11, .d nodesD), (12, vint (5 : Nat)), (13, vint (1 : Nat))], [], h1⟩) ⟨⟨rfl, rfl, rfl, rfl, trivial⟩, trivial, rfl⟩ ?_
 refine wpR_round ?_
 refine s_seq <| s_region <| s_val rfl rfl rfl rfl <| s_nil <| s_seq <| s_cond_t rfl <| s_skip <| s_seq <| s_block <| s_seq <| s_region ?_
 iterate 3 refine s_val rfl rfl rfl rfl ?_
 refine s_newL rfl rfl rfl rfl rfl ?_
 refine s_val rfl rfl rfl rfl ?_
 refine s_setL rfl rfl rfl ?_
 refine s_nil <| s_seq <| s_seq ?_
 refine s_drawn { ord := [0, 1, 2, 3, 4, 5, 6, 7], wr := 72, fl := [(5, 0)], cl := [0, 0, 2, 7, 0, 0, 63, 127] } (by kernel_rfl) ?_
 iterate 3 refine d_val rfl rfl rfl rfl rfl ?_
 refine d_ret1 (way_ret (k := 5) (.inr (.inl ⟨rfl, rfl⟩))) rfl rfl rfl rfl rfl ?_
 rintro _ hz ⟨rfl, hze⟩
 subst hze
 refine d_val rfl rfl rfl rfl rfl <| d_val rfl rfl rfl rfl rfl ?_
 refine d_ret1 (name1_ret T1 hF sF hM0 (by rw [hl0]; omega)) rfl rfl rfl rfl rfl ?_
 rintro _ h2 ⟨rfl, q2, T2⟩
 rw [c1] at T2
 simp only at T2
 refine d_val rfl rfl rfl rfl rfl ?_
 refine d_nil ⟨⟨fun _ ho _ => by cases ho; rfl, trivial⟩, trivial, ?_⟩
 refine s_cond_f rfl <| s_skip <| s_seq <| s_region ?_
 iterate 3 refine s_val rfl rfl rfl rfl ?_
 refine s_val rfl (o_load rfl rfl rfl T2.gt rfl rfl) rfl rfl ?_
 refine s_val rfl rfl rfl rfl <| s_val rfl rfl rfl rfl ?_
 refine s_val rfl (o_load rfl rfl rfl T2.gl rfl rfl) rfl rfl ?_
 refine s_val rfl rfl rfl rfl <| s_val rfl rfl rfl rfl ?_
 iterate 10 refine s_no rfl rfl rfl ?_
 refine s_val rfl rfl rfl rfl <| s_nil <| s_cond_f rfl <| s_skip <| s_region <| s_val rfl rfl rfl rfl <| s_val rfl rfl rfl rfl <| s_nil ?_
 refine wpR_less (σ' := ⟨[(0, .ptr i.t 0 0), (11, .d nodesD), (12, vint (5 : Nat)), (13, vint (2 : Nat))], [], h2⟩) ⟨⟨rfl, rfl, rfl, rfl, trivial⟩, trivial, rfl⟩ ?_
 refine wpR_round ?_
 refine s_seq <| s_region <| s_val rfl rfl rfl rfl <| s_nil <| s_seq <| s_cond_t rfl <| s_skip <| s_seq <| s_block <| s_seq <| s_region ?_
 iterate 3 refine s_val rfl rfl rfl rfl ?_
 refine s_newL rfl rfl rfl rfl rfl ?_
 refine s_val rfl rfl rfl rfl ?_
 refine s_setL rfl rfl rfl ?_
 refine s_nil <| s_seq <| s_seq ?_
 refine s_drawn { ord := [0, 1, 2, 3, 4, 5, 6, 7], wr := 72, fl := [(5, 0)], cl := [0, 0, 2, 7, 0, 0, 63, 127] } (by kernel_rfl) ?_
 iterate 3 refine d_val rfl rfl rfl rfl rfl ?_
 refine d_ret1 (way_ret (k := 5) (.inr (.inl ⟨rfl, rfl⟩))) rfl rfl rfl rfl rfl ?_
 rintro _ hz ⟨rfl, hze⟩
 subst hze
 refine d_val rfl rfl rfl rfl rfl <| d_val rfl rfl rfl rfl rfl ?_
 refine d_ret1 (name2_ret T2 hX sX M1.map (by omega)) rfl rfl rfl rfl rfl ?_
 rintro _ h3 ⟨rfl, q3, T3⟩
 rw [c2] at T3
 simp only at T3
 refine d_val rfl rfl rfl rfl rfl ?_
 refine d_nil ⟨⟨fun _ ho _ => by cases ho; rfl, trivial⟩, trivial, ?_⟩
 refine s_cond_f rfl <| s_skip <| s_seq <| s_region ?_
 iterate 3 refine s_val rfl rfl rfl rfl ?_
 refine s_val rfl (o_load rfl rfl rfl T3.gt rfl rfl) rfl rfl ?_
 refine s_val rfl rfl rfl rfl <| s_val rfl rfl rfl rfl ?_
 refine s_val rfl (o_load rfl rfl rfl T3.gl rfl rfl) rfl rfl ?_
 refine s_val rfl rfl rfl rfl <| s_val rfl rfl rfl rfl ?_
 iterate 10 refine s_no rfl rfl rfl ?_
 refine s_val rfl rfl rfl rfl <| s_nil <| s_cond_f rfl <| s_skip <| s_region <| s_val rfl rfl rfl rfl <| s_val rfl rfl rfl rfl <| s_nil ?_
 refine wpR_less (σ' := ⟨[(0, .ptr i.t 0 0), (11, .d nodesD), (12, vint (5 : Nat)), (13, vint (3 : Nat))], [], h3⟩) ⟨⟨rfl, rfl, rfl, rfl, trivial⟩, trivial, rfl⟩ ?_
 refine wpR_round ?_
 refine s_seq <| s_region <| s_val rfl rfl rfl rfl <| s_nil <| s_seq <| s_cond_t rfl <| s_skip <| s_seq <| s_block <| s_seq <| s_region ?_
 iterate 3 refine s_val rfl rfl rfl rfl ?_
 refine s_newL rfl rfl rfl rfl rfl ?_
 refine s_val rfl rfl rfl rfl ?_
 refine s_setL rfl rfl rfl ?_
 refine s_nil <| s_seq <| s_seq ?_
 refine s_drawn { ord := [0, 1, 2, 3, 4, 5, 6, 7], wr := 72, fl := [(5, 0)], cl := [0, 0, 2, 7, 0, 0, 63, 127] } (by kernel_rfl) ?_
 iterate 3 refine d_val rfl rfl rfl rfl rfl ?_
 refine d_ret1 (way_ret (k := 11) (.inr (.inr (.inl ⟨rfl, rfl⟩)))) rfl rfl rfl rfl rfl ?_
 rintro _ hz ⟨rfl, hze⟩
 subst hze
 refine d_val rfl rfl rfl rfl rfl <| d_val rfl rfl rfl rfl rfl ?_
 refine d_ret1 (apply_ret (a0 := 0) (a1 := p1.2.2 + 1) (a2 := p2.2.2 + 1) (a3 := 0) (a4 := 0) (S' := S.sh) (e := e) T3 M2.map (by omega) (by omega) (by omega) hk1 (by rw [← huS, hlen2, ← hua, ← huc, hu']; rfl) he) rfl rfl rfl rfl rfl ?_
 rintro vb h4 hA4
 have hb4 : ∃ b : Bool, vb = vbool b ∧ (b = true ↔ e = 0) := by
  rcases hA4 with ⟨h6, h7, _⟩ | ⟨h6, h7, _⟩
  ·exact ⟨true, h7, by simp [h6]⟩
  ·exact ⟨false, h7, by simp [h6]⟩
 obtain ⟨b4, rfl, hb4⟩ := hb4
 refine d_val rfl rfl rfl rfl rfl ?_
 refine d_nil ⟨⟨fun _ ho _ => by cases ho; rfl, trivial⟩, trivial, ?_⟩
 refine s_if rfl (fun hb => ?_) (fun hb => ?_)
 ·skip
  have he0 : e ≠ 0 := fun h5 => by rw [hb4.2 h5] at hb; cases hb
  have hfail : Failed i (if e = 130 then 6 else 5) 8 11 h4 := by
   rcases hA4 with ⟨h6, _⟩ | ⟨_, _, h7⟩
   ·exact absurd h6 he0
   ·exact h7
  refine s_seq <| s_region <| s_val rfl rfl rfl rfl <| s_nil <| s_ret ?_
  exact ⟨.inr rfl, _, rfl, .inl ⟨he0, rfl, hfail⟩⟩
 have he0 : e = 0 := hb4.1 (by simpa using hb)
 subst he0
 have hUn := h0 rfl
 obtain ⟨q4, T4⟩ : ∃ p', TY F X i h4 S.sh p' [0, p1.2.2 + 1, p2.2.2 + 1, p2.1.sh.nodes.length, 0] := by
  rcases hA4 with ⟨_, _, h7⟩ | ⟨h6, _⟩
  ·exact h7
  ·exact absurd rfl h6
 rw [hlen2] at T4
 have hSl : S.nodes.length = u.S.nodes.length := by rw [hUn.nodes]
 have hSz : S.nodes.length + 1 ≤ 2 ^ 12 := by rw [hSl]; omega
 have hnok : ∀ n, n < S.nodes.length → NodeOk kindOf (S.node n) := fun n hn => by
  have h5 : S.node n = u.S.node n := by unfold Store.node; rw [hUn.nodes]
  rw [h5]; exact hU.made.nok n (by rw [← hSl]; exact hn)
 have hr : u.r < S.nodes.length := by rw [hSl]; exact hUr
 have hut := unify_tie hUn.wf hSz (fun n hn => (hnok n hn).args) hr hUn.r hk2
 have hdt := den_tie0 hUn.wf hSz hr hUn.r
 have hwt : Wf S.sh := hUn.wf.sh hSz
 have hszt : (Tr.rename (· + 1)).size = Tr.size := den_size hUn.r
 refine s_skip <| s_seq <| s_region ?_
 iterate 3 refine s_val rfl rfl rfl rfl ?_
 refine s_val rfl (o_load rfl rfl rfl T4.gt rfl rfl) rfl rfl ?_
 refine s_val rfl rfl rfl rfl <| s_val rfl rfl rfl rfl ?_
 refine s_val rfl (o_load rfl rfl rfl T4.gl rfl rfl) rfl rfl ?_
 iterate 6 refine s_val rfl rfl rfl rfl ?_
 refine s_val rfl (o_load rfl rfl rfl T4.gt rfl rfl) rfl rfl ?_
 refine s_val rfl rfl rfl rfl <| s_val rfl rfl rfl rfl ?_
 refine s_val rfl (o_load rfl rfl rfl T4.gl rfl rfl) rfl rfl ?_
 refine s_ret1 (bound_ret (S' := S.tie u.r) (Ty0 := Tr.rename (· + 1)) T4 hwt (by rw [sh_len]; omega) (by rw [sh_len, hSl]; omega) hk1 (by rw [← hur]; exact hut) (fun n hn => (tie_nok hUn.wf hSz hnok hr n hn).args) hdt) rfl rfl rfl rfl ?_
 rintro vb h5 hA5
 rw [hszt] at hA5
 have hb5 : ∃ b : Bool, vb = vbool b ∧ (b = true ↔ Tr.size ≤ 300) := by
  rcases hA5 with ⟨h6, h7, _⟩ | ⟨h6, h7, _⟩
  ·exact ⟨true, h7, by simp [h6]⟩
  ·exact ⟨false, h7, by simp; omega⟩
 obtain ⟨b5, rfl, hb5⟩ := hb5
 refine s_val rfl rfl rfl rfl <| s_val rfl rfl rfl rfl <| s_nil ?_
 refine s_if rfl (fun hb => ?_) (fun hb => ?_)
 ·skip
  have hbig : 300 < Tr.size := by
   have h7 : ¬ Tr.size ≤ 300 := fun h8 => by rw [hb5.2 h8] at hb; cases hb
   omega
  have hfail : Failed i 7 4 5 h5 := by
   rcases hA5 with ⟨h6, _⟩ | ⟨_, _, h7⟩
   ·omega
   ·exact h7
  refine s_seq <| s_region <| s_val rfl rfl rfl rfl <| s_nil <| s_ret ?_
  exact ⟨.inr rfl, _, rfl, .inr (.inl ⟨rfl, hbig, rfl, hfail⟩)⟩
 have hsm : Tr.size ≤ 300 := hb5.1 (by simpa using hb)
 obtain ⟨q5, T5⟩ : ∃ p', TY F X i h5 (S.tie u.r) p' [0, p1.2.2 + 1, p2.2.2 + 1, p2.1.nodes.length + 1, 0] := by
  rcases hA5 with ⟨_, _, h7⟩ | ⟨h6, _⟩
  ·exact h7
  ·omega
 refine s_skip <| s_region <| s_val rfl rfl rfl rfl <| s_val rfl rfl rfl rfl <| s_nil ?_
 refine wpR_less (σ' := ⟨[(0, .ptr i.t 0 0), (11, .d nodesD), (12, vint (5 : Nat)), (13, vint (4 : Nat))], [], h5⟩) ⟨⟨rfl, rfl, rfl, rfl, trivial⟩, trivial, rfl⟩ ?_
 refine wpR_round ?_
 refine s_seq <| s_region <| s_val rfl rfl rfl rfl <| s_nil <| s_seq <| s_cond_t rfl <| s_skip <| s_seq <| s_block <| s_seq <| s_region ?_
 iterate 3 refine s_val rfl rfl rfl rfl ?_
 refine s_newL rfl rfl rfl rfl rfl ?_
 refine s_val rfl rfl rfl rfl ?_
 refine s_setL rfl rfl rfl ?_
 refine s_nil <| s_seq <| s_seq ?_
 refine s_drawn { ord := [0, 1, 2, 3, 4, 5, 6, 7], wr := 72, fl := [(5, 0)], cl := [0, 0, 2, 7, 0, 0, 63, 127] } (by kernel_rfl) ?_
 iterate 3 refine d_val rfl rfl rfl rfl rfl ?_
 refine d_ret1 (way_ret (k := 1) (.inr (.inr (.inr ⟨rfl, rfl⟩)))) rfl rfl rfl rfl rfl ?_
 rintro _ hz ⟨rfl, hze⟩
 subst hze
 refine d_val rfl rfl rfl rfl rfl <| d_val rfl rfl rfl rfl rfl ?_
 refine d_ret1 (last_ret T5) rfl rfl rfl rfl rfl ?_
 rintro _ h6 ⟨rfl, T6⟩
 refine d_val rfl rfl rfl rfl rfl ?_
 refine d_nil ⟨⟨fun _ ho _ => by cases ho; rfl, trivial⟩, trivial, ?_⟩
 refine s_cond_f rfl <| s_skip <| s_seq <| s_region ?_
 iterate 3 refine s_val rfl rfl rfl rfl ?_
 refine s_val rfl (o_load rfl rfl rfl T6.gt rfl rfl) rfl rfl ?_
 refine s_val rfl rfl rfl rfl <| s_val rfl rfl rfl rfl ?_
 refine s_val rfl (o_load rfl rfl rfl T6.gl rfl rfl) rfl rfl ?_
 refine s_val rfl rfl rfl rfl <| s_val rfl rfl rfl rfl ?_
 iterate 10 refine s_no rfl rfl rfl ?_
 refine s_val rfl rfl rfl rfl <| s_nil <| s_cond_f rfl <| s_skip <| s_region <| s_val rfl rfl rfl rfl <| s_val rfl rfl rfl rfl <| s_nil ?_
 refine wpR_less (σ' := ⟨[(0, .ptr i.t 0 0), (11, .d nodesD), (12, vint (5 : Nat)), (13, vint (5 : Nat))], [], h6⟩) ⟨⟨rfl, rfl, rfl, rfl, trivial⟩, trivial, rfl⟩ ?_
 refine wpR_round ?_
 refine s_seq <| s_region <| s_val rfl rfl rfl rfl <| s_nil <| s_seq <| s_cond_f rfl ?_
 refine s_exit ?_
 refine s_seq <| s_region <| s_val rfl rfl rfl rfl <| s_nil <| s_ret ?_
 refine ⟨.inr rfl, _, rfl, .inr (.inr ⟨rfl, hsm, rfl, q5, ?_⟩)⟩
 rw [hua, hub, hur]; rw [hur] at T6; exact T6
end
end Go.Dv.Us
/- newResolver, on two exports. -/
namespace Go.Dv.Us
open Go.Dv.K Go.Proofs
def exCell (nm : List UInt8) (T : Ty) : List DV := .str nm :: T.cells
def namesC (F X : Ty) : List AV := (exCell [102] F ++ exCell [120] X).map .d
def exA (nm : List UInt8) (T : Ty) : AV := .d (.agg (exCell nm T))
theorem exA_cell (nm : List UInt8) (T : Ty) : (exA nm T).cells.all AV.isCell = true := by
 show (((DV.str nm) :: T.cells).map AV.d).all AV.isCell = true
 rw [List.map_cons, List.all_cons]
 exact Bool.and_eq_true_iff.2 ⟨rfl, Ty.cells_isCell T⟩
/-- A resolver's memory. -/
structure RS (F X : Ty) (r me mc mi : Nat) (h : Hp) : Prop where
 gr : h.get r = some (.cells [.d nodesD, .map me, .map mc, .msl mi 0 5 0 1, vint 0, vint 0, vint 0] 0)
 ge : h.get me = some (.map (expo F X))
 gm : h.get mi = some (.cells nils 0)
theorem resolver_ret {F X : Ty} {h : Hp} {nid ver : Nat} (gN : h.get nid = some (.cells (namesC F X) ver)) (lN : nid < h.next) :
  Ret ctx Or Xo 47 [.d baseD, .msl nid 0 2 ver 5, .d nodesD] h (fun v h' => v = .ptr (h.next + 3) 0 0 ∧ RS F X (h.next + 3) h.next (h.next + 1) (h.next + 2) h' ∧ Ext h h' ∧ h'.next = h.next + 4) := by
 cases F with
 | mk kF nF sF bF aF =>
 cases X with
 | mk kX nX sX bX aX =>
 refine body (env := [(0, .d baseD), (1, .msl nid 0 2 ver 5), (2, .d nodesD)]) (rs := [.tmp 6]) Tryz.func47 rfl rfl Tryz.ntmps47 rfl rfl ?_
 refine s_seq <| s_region ?_
 refine s_newL rfl rfl rfl rfl rfl ?_
 refine s_val rfl rfl rfl rfl <| s_nil <| s_seq <| s_region <| s_val rfl rfl rfl rfl ?_
 refine s_newMap rfl rfl rfl rfl ?_
 refine s_newMap rfl rfl rfl rfl ?_
 refine s_val rfl rfl rfl rfl <| s_val rfl rfl rfl rfl ?_
 refine s_newCells rfl rfl rfl rfl ?_
 refine s_val rfl rfl rfl rfl ?_
 refine s_newVar rfl rfl rfl rfl ?_
 refine s_val rfl rfl rfl rfl <| s_nil ?_
 generalize hh1 : ((((h.alloc (.map [])).alloc (.map [])).newC nils 165).newV [.d nodesD, .map h.next, .map (h.next + 1), .msl (h.next + 2) 0 5 0 1, vint 0, vint 0, vint 0] 93) = h1
 refine s_seq <| s_seq <| s_region ?_
 iterate 3 refine s_val rfl rfl rfl rfl ?_
 refine s_nil <| s_block ?_
 have hn1 : h1.next = h.next + 4 := by rw [← hh1]; rfl
 have e1 : Ext h h1 := by rw [← hh1]; exact (((Ext.alloc ..).trans (Ext.alloc ..)).trans (Ext.newC ..)).trans (Ext.newV ..)
 have gr1 : h1.get (h.next + 3) = some (.cells [.d nodesD, .map h.next, .map (h.next + 1), .msl (h.next + 2) 0 5 0 1, vint 0, vint 0, vint 0] 0) := by rw [← hh1]; exact if_pos rfl
 have gm1 : h1.get (h.next + 2) = some (.cells nils 0) := by
  rw [← hh1, Hp.get_newV, if_neg (by show h.next + 2 ≠ h.next + 3; omega)]; exact if_pos rfl
 have ge1 : h1.get h.next = some (.map []) := by
  rw [← hh1, Hp.get_newV, if_neg (by show h.next ≠ h.next + 3; omega), Hp.get_newC, if_neg (by show h.next ≠ h.next + 2; omega), Hp.get_alloc, if_neg (by show h.next ≠ h.next + 1; omega), Hp.get_alloc, if_pos rfl]
 have gN1 := (e1.keep nid lN).trans gN
 refine s_loop ?_
 refine wpR_less (σ' := ⟨[(3, .lptr 3 0), (7, .ptr (h.next + 3) 0 0), (20, .msl nid 0 2 ver 5), (21, vint (2 : Nat)), (22, vint (0 : Nat))], [(3, (AV.d baseD).cells)], h1⟩) ⟨⟨rfl, rfl, rfl, rfl, rfl, trivial⟩, ⟨rfl, trivial⟩, by rw [← hh1]; rfl⟩ ?_
 refine wpR_round ?_
 refine s_seq <| s_region <| s_val rfl rfl rfl rfl <| s_nil <| s_seq <| s_cond_t rfl <| s_skip <| s_seq <| s_block <| s_seq <| s_region <| s_val rfl rfl rfl rfl ?_
 refine s_val rfl (o_eq (v' := exA [102] (Ty.mk kF nF sF bF aF)) (o_load rfl rfl rfl gN1 rfl rfl) rfl) rfl rfl ?_
 refine s_newL rfl rfl rfl rfl rfl ?_
 refine s_setL rfl (o_storeL rfl rfl rfl rfl rfl rfl (exA_cell _ _) rfl (Nat.le_refl 5)) rfl ?_
 refine s_nil ?_
 refine s_drawn { ord := [0, 1, 2, 3, 4, 5, 6, 7, 8], wr := 256, cl := [0, 1, 3, 7, 0, 16, 0, 64, 255] } (by kernel_rfl) ?_
 iterate 3 refine d_val rfl rfl rfl rfl rfl ?_
 refine d_val rfl rfl (o_load rfl rfl rfl gr1 rfl rfl) rfl rfl ?_
 iterate 4 refine d_val rfl rfl rfl rfl rfl ?_
 refine d_setH rfl rfl (o_mapUpE rfl rfl rfl rfl rfl rfl ge1 (es' := [(.str [102], (Ty.mk kF nF sF bF aF).agg)]) rfl rfl) rfl ?_
 refine d_nil ⟨trivial, trivial, ?_⟩
 refine s_region <| s_val rfl rfl rfl rfl <| s_val rfl rfl rfl rfl <| s_nil ?_
 generalize hh2 : h1.set h.next (.map [(.str [102], (Ty.mk kF nF sF bF aF).agg)]) = h2
 have gr2 := (show h2.get (h.next + 3) = h1.get (h.next + 3) by rw [← hh2]; exact Hp.get_set_ne (by omega)).trans gr1
 have gm2 := (show h2.get (h.next + 2) = h1.get (h.next + 2) by rw [← hh2]; exact Hp.get_set_ne (by omega)).trans gm1
 have ge2 : h2.get h.next = some (.map [(.str [102], (Ty.mk kF nF sF bF aF).agg)]) := by rw [← hh2]; exact Hp.get_set_eq
 have gN2 := (show h2.get nid = h1.get nid by rw [← hh2]; exact Hp.get_set_ne (by omega)).trans gN1
 have hn2 : h2.next = h.next + 4 := by rw [← hh2]; exact hn1
 have e2 : Ext h h2 := by rw [← hh2]; exact e1.set (Nat.le_refl _)
 refine wpR_less (σ' := ⟨[(3, .lptr 3 0), (7, .ptr (h.next + 3) 0 0), (20, .msl nid 0 2 ver 5), (21, vint (2 : Nat)), (22, vint (1 : Nat))], [(3, (AV.d baseD).cells)], h2⟩) ⟨⟨rfl, rfl, rfl, rfl, rfl, trivial⟩, ⟨rfl, trivial⟩, rfl⟩ ?_
 refine wpR_round ?_
 refine s_seq <| s_region <| s_val rfl rfl rfl rfl <| s_nil <| s_seq <| s_cond_t rfl <| s_skip <| s_seq <| s_block <| s_seq <| s_region <| s_val rfl rfl rfl rfl ?_
 refine s_val rfl (o_eq (v' := exA [120] (Ty.mk kX nX sX bX aX)) (o_load rfl rfl rfl gN2 rfl rfl) rfl) rfl rfl ?_
 refine s_newL rfl rfl rfl rfl rfl ?_
 refine s_setL rfl (o_storeL rfl rfl rfl rfl rfl rfl (exA_cell _ _) rfl (Nat.le_refl 5)) rfl ?_
 refine s_nil ?_
 refine s_drawn { ord := [0, 1, 2, 3, 4, 5, 6, 7, 8], wr := 256, cl := [0, 1, 3, 7, 0, 16, 0, 64, 255] } (by kernel_rfl) ?_
 iterate 3 refine d_val rfl rfl rfl rfl rfl ?_
 refine d_val rfl rfl (o_load rfl rfl rfl gr2 rfl rfl) rfl rfl ?_
 iterate 4 refine d_val rfl rfl rfl rfl rfl ?_
 refine d_setH rfl rfl (o_mapUpE rfl rfl rfl rfl rfl rfl ge2 (es' := [(.str [102], (Ty.mk kF nF sF bF aF).agg), (.str [120], (Ty.mk kX nX sX bX aX).agg)]) rfl rfl) rfl ?_
 refine d_nil ⟨trivial, trivial, ?_⟩
 refine s_region <| s_val rfl rfl rfl rfl <| s_val rfl rfl rfl rfl <| s_nil ?_
 generalize hh3 : h2.set h.next (.map [(.str [102], (Ty.mk kF nF sF bF aF).agg), (.str [120], (Ty.mk kX nX sX bX aX).agg)]) = h3
 have gr3 := (show h3.get (h.next + 3) = h2.get (h.next + 3) by rw [← hh3]; exact Hp.get_set_ne (by omega)).trans gr2
 have gm3 := (show h3.get (h.next + 2) = h2.get (h.next + 2) by rw [← hh3]; exact Hp.get_set_ne (by omega)).trans gm2
 have ge3 : h3.get h.next = some (.map (expo (.mk kF nF sF bF aF) (.mk kX nX sX bX aX))) := by rw [← hh3]; exact Hp.get_set_eq
 have hn3 : h3.next = h.next + 4 := by rw [← hh3]; exact hn2
 have e3 : Ext h h3 := by rw [← hh3]; exact e2.set (Nat.le_refl _)
 refine wpR_less (σ' := ⟨[(3, .lptr 3 0), (7, .ptr (h.next + 3) 0 0), (20, .msl nid 0 2 ver 5), (21, vint (2 : Nat)), (22, vint (2 : Nat))], [(3, (AV.d baseD).cells)], h3⟩) ⟨⟨rfl, rfl, rfl, rfl, rfl, trivial⟩, ⟨rfl, trivial⟩, rfl⟩ ?_
 refine wpR_round ?_
 refine s_seq <| s_region <| s_val rfl rfl rfl rfl <| s_nil <| s_seq <| s_cond_f rfl ?_
 refine s_exit ?_
 refine s_seq <| s_seq <| s_region ?_
 iterate 4 refine s_val rfl rfl rfl rfl ?_
 refine s_nil <| s_block ?_
 refine s_loop ?_
 refine wpR_round ?_
 refine s_seq <| s_region <| s_val rfl rfl rfl rfl <| s_nil <| s_seq <| s_cond_f rfl ?_
 refine s_exit ?_
 refine s_seq <| s_region <| s_val rfl rfl rfl rfl <| s_val rfl rfl rfl rfl <| s_nil <| s_ret ?_
 exact ⟨.inr rfl, _, rfl, rfl, ⟨gr3, ge3, gm3⟩, e3, hn3⟩
end Go.Dv.Us
/- The resolver's walk, on the tree of one name applied to another. -/
namespace Go.Dv.Us
open Go.Dv.K Go.Proofs
section
variable {F X : Ty} {r me mc mi : Nat} {h : Hp}
/-- Memory that reads as before. -/
def Alike2 (h h' : Hp) : Prop := h'.next = h.next ∧ ∀ id, h'.get id = h.get id
theorem Alike2.rfl' : Alike2 h h := ⟨rfl, fun _ => rfl⟩
theorem Alike2.trans {h h1 h2 : Hp} (a : Alike2 h h1) (b : Alike2 h1 h2) : Alike2 h h2 := ⟨b.1.trans a.1, fun id => (b.2 id).trans (a.2 id)⟩
theorem Alike2.ext {h h' : Hp} (a : Alike2 h h') : Ext h h' := ⟨Nat.le_of_eq a.1.symm, fun id _ => a.2 id⟩
theorem RS.alike {h h' : Hp} (R : RS F X r me mc mi h) (a : Alike2 h h') : RS F X r me mc mi h' := ⟨(a.2 _).trans R.gr, (a.2 _).trans R.ge, (a.2 _).trans R.gm⟩
theorem RS.nil (R : RS F X r me mc mi h) : Alike2 h (h.set mi (.cells nils 0)) := ⟨rfl, fun id => by
 rw [Hp.get_set]; split
 ·rename_i he; subst he; exact R.gm.symm
 ·rfl⟩
theorem walkV1_ret (R : RS F X r me mc mi h) : Ret ctx Or Xo 48 [.ptr r 0 0, vint (1 : Nat), .d .nilptr] h (fun _ h' => Alike2 h h') := by
 cases F with
 | mk kF nF sF bF aF =>
 cases X with
 | mk kX nX sX bX aX =>
 refine body (env := [(0, .ptr r 0 0), (1, vint (1 : Nat)), (2, .d .nilptr)]) (rs := []) Tryz.func48 rfl rfl Tryz.ntmps48 rfl rfl ?_
 refine s_seq <| s_seq <| s_region ?_
 iterate 4 refine s_val rfl rfl rfl rfl ?_
 refine s_val rfl (o_load rfl rfl rfl R.gr rfl rfl) rfl rfl ?_
 refine s_val rfl rfl rfl rfl <| s_nil <| s_cond_f rfl <| s_skip <| s_seq <| s_region ?_
 iterate 3 refine s_val rfl rfl rfl rfl ?_
 refine s_val rfl (o_load rfl rfl rfl R.gr rfl rfl) rfl rfl ?_
 iterate 3 refine s_val rfl rfl rfl rfl ?_
 refine s_newL rfl rfl rfl rfl rfl ?_
 refine s_setL rfl rfl rfl ?_
 refine s_nil <| s_seq <| s_region <| s_val rfl rfl rfl rfl <| s_val rfl rfl rfl rfl <| s_nil <| s_block <| s_seq <| s_region <| s_val rfl rfl rfl rfl <| s_val rfl rfl rfl rfl <| s_nil <| s_cond_f rfl <| s_seq <| s_seq <| s_region <| s_val rfl rfl rfl rfl <| s_val rfl rfl rfl rfl <| s_nil <| s_cond_f rfl <| s_region <| s_val rfl rfl rfl rfl <| s_val rfl rfl rfl rfl <| s_nil <| s_cond_f rfl <| s_seq <| s_region <| s_val rfl rfl rfl rfl <| s_val rfl rfl rfl rfl <| s_nil <| s_cond_f rfl <| s_seq <| s_region <| s_val rfl rfl rfl rfl <| s_val rfl rfl rfl rfl <| s_nil <| s_cond_t rfl <| s_seq ?_
 refine s_drawn { ord := [0, 1, 2, 3, 4, 5, 6, 7, 8, 9, 10], wr := 1280, fl := [(3, 9)], cl := [0, 1, 3, 7, 0, 0, 0, 64, 224, 511, 1023] } (by kernel_rfl) ?_
 iterate 3 refine d_val rfl rfl rfl rfl rfl ?_
 refine d_val rfl rfl (o_load rfl rfl rfl R.gr rfl rfl) rfl rfl ?_
 iterate 4 refine d_val rfl rfl rfl rfl rfl ?_
 refine d_ret1 (ff_ret _) rfl rfl rfl rfl rfl ?_
 rintro _ h1 ⟨rfl, he1⟩
 subst he1
 refine d_val rfl rfl rfl rfl rfl ?_
 refine d_setH rfl rfl (o_store1 rfl rfl rfl rfl rfl rfl rfl rfl R.gm (Nat.le_of_ble_eq_true rfl)) rfl ?_
 refine d_nil ⟨⟨fun _ ho _ => by cases ho; rfl, trivial⟩, trivial, ?_⟩
 have A1 := R.nil
 have R1 := R.alike A1
 refine s_seq ?_
 refine s_drawn { ord := [10, 0, 1, 2, 3, 4, 5, 6, 7, 8, 9, 11, 12], wr := 2048, nA := 1, cl := [0, 1, 3, 7, 0, 16, 63, 127, 255, 255, 0, 1535, 4095] } (by kernel_rfl) ?_
 refine d_newL rfl rfl rfl rfl rfl rfl ?_
 iterate 3 refine d_val rfl rfl rfl rfl rfl ?_
 refine d_val rfl rfl (o_load rfl rfl rfl R1.gr rfl rfl) rfl rfl ?_
 refine d_val rfl rfl rfl rfl rfl <| d_val rfl rfl rfl rfl rfl ?_
 refine d_val rfl rfl (o_eq (v' := .tuple [(Ty.mk kF nF sF bF aF).agg, vbool true]) (o_lookE rfl rfl rfl rfl rfl rfl R1.ge (v := (Ty.mk kF nF sF bF aF).agg) rfl) rfl) rfl rfl ?_
 iterate 3 refine d_val rfl rfl rfl rfl rfl ?_
 refine d_setL rfl rfl (o_storeL rfl rfl rfl rfl rfl rfl (Ty.cells_isCell _) rfl (Nat.le_refl 4)) rfl ?_
 refine d_val rfl rfl rfl rfl rfl ?_
 refine d_nil ⟨trivial, ⟨⟨rfl, ?_⟩, trivial⟩, ?_⟩
 ·rintro o d ⟨rfl⟩ ⟨rfl⟩
  repeat' constructor
 refine s_seq <| s_region ?_
 iterate 3 refine s_val rfl rfl rfl rfl ?_
 iterate 8 refine s_no rfl rfl rfl ?_
 refine s_val rfl rfl rfl rfl <| s_nil <| s_cond_f rfl <| s_skip ?_
 exact ⟨.inl rfl, _, rfl, A1⟩
theorem walkV2_ret (R : RS F X r me mc mi h) : Ret ctx Or Xo 48 [.ptr r 0 0, vint (2 : Nat), .d .nilptr] h (fun _ h' => Alike2 h h') := by
 cases F with
 | mk kF nF sF bF aF =>
 cases X with
 | mk kX nX sX bX aX =>
 refine body (env := [(0, .ptr r 0 0), (1, vint (2 : Nat)), (2, .d .nilptr)]) (rs := []) Tryz.func48 rfl rfl Tryz.ntmps48 rfl rfl ?_
 refine s_seq <| s_seq <| s_region ?_
 iterate 4 refine s_val rfl rfl rfl rfl ?_
 refine s_val rfl (o_load rfl rfl rfl R.gr rfl rfl) rfl rfl ?_
 refine s_val rfl rfl rfl rfl <| s_nil <| s_cond_f rfl <| s_skip <| s_seq <| s_region ?_
 iterate 3 refine s_val rfl rfl rfl rfl ?_
 refine s_val rfl (o_load rfl rfl rfl R.gr rfl rfl) rfl rfl ?_
 iterate 3 refine s_val rfl rfl rfl rfl ?_
 refine s_newL rfl rfl rfl rfl rfl ?_
 refine s_setL rfl rfl rfl ?_
 refine s_nil <| s_seq <| s_region <| s_val rfl rfl rfl rfl <| s_val rfl rfl rfl rfl <| s_nil <| s_block <| s_seq <| s_region <| s_val rfl rfl rfl rfl <| s_val rfl rfl rfl rfl <| s_nil <| s_cond_f rfl <| s_seq <| s_seq <| s_region <| s_val rfl rfl rfl rfl <| s_val rfl rfl rfl rfl <| s_nil <| s_cond_f rfl <| s_region <| s_val rfl rfl rfl rfl <| s_val rfl rfl rfl rfl <| s_nil <| s_cond_f rfl <| s_seq <| s_region <| s_val rfl rfl rfl rfl <| s_val rfl rfl rfl rfl <| s_nil <| s_cond_f rfl <| s_seq <| s_region <| s_val rfl rfl rfl rfl <| s_val rfl rfl rfl rfl <| s_nil <| s_cond_t rfl <| s_seq ?_
 refine s_drawn { ord := [0, 1, 2, 3, 4, 5, 6, 7, 8, 9, 10], wr := 1280, fl := [(3, 9)], cl := [0, 1, 3, 7, 0, 0, 0, 64, 224, 511, 1023] } (by kernel_rfl) ?_
 iterate 3 refine d_val rfl rfl rfl rfl rfl ?_
 refine d_val rfl rfl (o_load rfl rfl rfl R.gr rfl rfl) rfl rfl ?_
 iterate 4 refine d_val rfl rfl rfl rfl rfl ?_
 refine d_ret1 (fx_ret _) rfl rfl rfl rfl rfl ?_
 rintro _ h1 ⟨rfl, he1⟩
 subst he1
 refine d_val rfl rfl rfl rfl rfl ?_
 refine d_setH rfl rfl (o_store1 rfl rfl rfl rfl rfl rfl rfl rfl R.gm (Nat.le_of_ble_eq_true rfl)) rfl ?_
 refine d_nil ⟨⟨fun _ ho _ => by cases ho; rfl, trivial⟩, trivial, ?_⟩
 have A1 := R.nil
 have R1 := R.alike A1
 refine s_seq ?_
 refine s_drawn { ord := [10, 0, 1, 2, 3, 4, 5, 6, 7, 8, 9, 11, 12], wr := 2048, nA := 1, cl := [0, 1, 3, 7, 0, 16, 63, 127, 255, 255, 0, 1535, 4095] } (by kernel_rfl) ?_
 refine d_newL rfl rfl rfl rfl rfl rfl ?_
 iterate 3 refine d_val rfl rfl rfl rfl rfl ?_
 refine d_val rfl rfl (o_load rfl rfl rfl R1.gr rfl rfl) rfl rfl ?_
 refine d_val rfl rfl rfl rfl rfl <| d_val rfl rfl rfl rfl rfl ?_
 refine d_val rfl rfl (o_eq (v' := .tuple [(Ty.mk kX nX sX bX aX).agg, vbool true]) (o_lookE rfl rfl rfl rfl rfl rfl R1.ge (v := (Ty.mk kX nX sX bX aX).agg) rfl) rfl) rfl rfl ?_
 iterate 3 refine d_val rfl rfl rfl rfl rfl ?_
 refine d_setL rfl rfl (o_storeL rfl rfl rfl rfl rfl rfl (Ty.cells_isCell _) rfl (Nat.le_refl 4)) rfl ?_
 refine d_val rfl rfl rfl rfl rfl ?_
 refine d_nil ⟨trivial, ⟨⟨rfl, ?_⟩, trivial⟩, ?_⟩
 ·rintro o d ⟨rfl⟩ ⟨rfl⟩
  repeat' constructor
 refine s_seq <| s_region ?_
 iterate 3 refine s_val rfl rfl rfl rfl ?_
 iterate 8 refine s_no rfl rfl rfl ?_
 refine s_val rfl rfl rfl rfl <| s_nil <| s_cond_f rfl <| s_skip ?_
 exact ⟨.inl rfl, _, rfl, A1⟩
theorem walk3_ret (R : RS F X r me mc mi h) : Ret ctx Or Xo 48 [.ptr r 0 0, vint (3 : Nat), .d .nilptr] h (fun _ h' => Alike2 h h') := by
 refine body (env := [(0, .ptr r 0 0), (1, vint (3 : Nat)), (2, .d .nilptr)]) (rs := []) Tryz.func48 rfl rfl Tryz.ntmps48 rfl rfl ?_
 refine s_seq <| s_seq <| s_region ?_
 iterate 4 refine s_val rfl rfl rfl rfl ?_
 refine s_val rfl (o_load rfl rfl rfl R.gr rfl rfl) rfl rfl ?_
 refine s_val rfl rfl rfl rfl <| s_nil <| s_cond_f rfl <| s_skip <| s_seq <| s_region ?_
 iterate 3 refine s_val rfl rfl rfl rfl ?_
 refine s_val rfl (o_load rfl rfl rfl R.gr rfl rfl) rfl rfl ?_
 iterate 3 refine s_val rfl rfl rfl rfl ?_
 refine s_newL rfl rfl rfl rfl rfl ?_
 refine s_setL rfl rfl rfl ?_
 refine s_nil <| s_seq <| s_region <| s_val rfl rfl rfl rfl <| s_val rfl rfl rfl rfl <| s_nil <| s_block <| s_seq <| s_region <| s_val rfl rfl rfl rfl <| s_val rfl rfl rfl rfl <| s_nil <| s_cond_f rfl <| s_seq <| s_seq <| s_region <| s_val rfl rfl rfl rfl <| s_val rfl rfl rfl rfl <| s_nil <| s_cond_f rfl <| s_region <| s_val rfl rfl rfl rfl <| s_val rfl rfl rfl rfl <| s_nil <| s_cond_f rfl <| s_seq <| s_region <| s_val rfl rfl rfl rfl <| s_val rfl rfl rfl rfl <| s_nil <| s_cond_f rfl <| s_seq <| s_region <| s_val rfl rfl rfl rfl <| s_val rfl rfl rfl rfl <| s_nil <| s_cond_f rfl <| s_seq <| s_seq <| s_region ?_
 iterate 4 refine s_val rfl rfl rfl rfl ?_
 refine s_nil <| s_block ?_
 refine s_loop ?_
 refine wpR_round ?_
 refine s_seq <| s_region <| s_val rfl rfl rfl rfl <| s_nil <| s_seq <| s_cond_t rfl <| s_skip <| s_seq <| s_block <| s_seq <| s_region ?_
 iterate 3 refine s_val rfl rfl rfl rfl ?_
 refine s_nil <| s_region ?_
 iterate 3 refine s_val rfl rfl rfl rfl ?_
 refine s_ret1 (walkV1_ret R) rfl rfl rfl rfl ?_
 rintro _ h1 A1
 have R1 := R.alike A1
 refine s_nil <| s_region <| s_val rfl rfl rfl rfl <| s_val rfl rfl rfl rfl <| s_nil ?_
 refine wpR_round ?_
 refine s_seq <| s_region <| s_val rfl rfl rfl rfl <| s_nil <| s_seq <| s_cond_t rfl <| s_skip <| s_seq <| s_block <| s_seq <| s_region ?_
 iterate 3 refine s_val rfl rfl rfl rfl ?_
 refine s_nil <| s_region ?_
 iterate 3 refine s_val rfl rfl rfl rfl ?_
 refine s_ret1 (walkV2_ret R1) rfl rfl rfl rfl ?_
 rintro _ h2 A2
 refine s_nil <| s_region <| s_val rfl rfl rfl rfl <| s_val rfl rfl rfl rfl <| s_nil ?_
 refine wpR_round ?_
 refine s_seq <| s_region <| s_val rfl rfl rfl rfl <| s_nil <| s_seq <| s_cond_f rfl ?_
 refine s_exit ?_
 refine s_seq <| s_region ?_
 iterate 8 refine s_val rfl rfl rfl rfl ?_
 refine s_nil <| s_cond_f rfl <| s_skip ?_
 exact ⟨.inl rfl, _, rfl, A1.trans A2⟩
theorem walk4_ret (R : RS F X r me mc mi h) : Ret ctx Or Xo 48 [.ptr r 0 0, vint (4 : Nat), .d .nilptr] h (fun _ h' => Alike2 h h') := by
 refine body (env := [(0, .ptr r 0 0), (1, vint (4 : Nat)), (2, .d .nilptr)]) (rs := []) Tryz.func48 rfl rfl Tryz.ntmps48 rfl rfl ?_
 refine s_seq <| s_seq <| s_region ?_
 iterate 4 refine s_val rfl rfl rfl rfl ?_
 refine s_val rfl (o_load rfl rfl rfl R.gr rfl rfl) rfl rfl ?_
 refine s_val rfl rfl rfl rfl <| s_nil <| s_cond_f rfl <| s_skip <| s_seq <| s_region ?_
 iterate 3 refine s_val rfl rfl rfl rfl ?_
 refine s_val rfl (o_load rfl rfl rfl R.gr rfl rfl) rfl rfl ?_
 iterate 3 refine s_val rfl rfl rfl rfl ?_
 refine s_newL rfl rfl rfl rfl rfl ?_
 refine s_setL rfl rfl rfl ?_
 refine s_nil <| s_seq <| s_region <| s_val rfl rfl rfl rfl <| s_val rfl rfl rfl rfl <| s_nil <| s_block <| s_seq <| s_region <| s_val rfl rfl rfl rfl <| s_val rfl rfl rfl rfl <| s_nil <| s_cond_f rfl <| s_seq <| s_seq <| s_region <| s_val rfl rfl rfl rfl <| s_val rfl rfl rfl rfl <| s_nil <| s_cond_t rfl <| s_skip <| s_cond_t rfl <| s_seq <| s_region <| s_val rfl rfl rfl rfl <| s_val rfl rfl rfl rfl <| s_nil <| s_seq <| s_seq <| s_region ?_
 iterate 3 refine s_val rfl rfl rfl rfl ?_
 refine s_nil <| s_cond_f rfl <| s_skip <| s_seq <| s_region ?_
 iterate 6 refine s_val rfl rfl rfl rfl ?_
 refine s_ret1 (walk3_ret R) rfl rfl rfl rfl ?_
 rintro _ h1 A1
 refine s_nil <| s_seq <| s_region ?_
 iterate 3 refine s_val rfl rfl rfl rfl ?_
 refine s_nil <| s_cond_f rfl <| s_skip ?_
 exact ⟨.inl rfl, _, rfl, A1⟩
end
end Go.Dv.Us
/- newTyper, on the tree of one name applied to another. -/
namespace Go.Dv.Us
open Go.Dv.K Go.Proofs
theorem ty_new {F X : Ty} {r me mc mi b : Nat} {h : Hp} (l1 : r < b) (l2 : me < b) (l3 : mi < b) (nd : r ≠ mi ∧ r ≠ me ∧ mi ≠ me) (R : RS F X r me mc mi h) (hS : StoreAt h b store0 ⟨.d .nilslice, .d .nilslice, .d .nilslice, .d .nilslice⟩)
  (gt : h.get (b + 1) = some (.cells [.ptr b 0 0, .ptr r 0 0, .msl (b + 2) 0 5 0 1, .msl (b + 3) 0 5 0 1, vint 0, vint 0, vint 0] 0)) (gn : h.get (b + 2) = some (.cells (nats [0, 0, 0, 0, 0]) 0)) (gl : h.get (b + 3) = some (.cells lets 0)) (hn : h.next = b + 4) :
  TY F X ⟨b + 1, r, b, b + 2, b + 3, mi, me, mc⟩ h store0 ⟨.d .nilslice, .d .nilslice, .d .nilslice, .d .nilslice⟩ [0, 0, 0, 0, 0] := by
 refine ⟨hS, gt, R.gr, gn, gl, R.gm, R.ge, fun id h7 => ?_, ?_, rfl⟩
 ·simp only [List.mem_cons, List.not_mem_nil, or_false] at h7
  refine ⟨fun h8 => ?_, by omega⟩
  simp [At.own, AV.own] at h8; omega
 ·obtain ⟨d1, d2, d3⟩ := nd
  simp only [List.nodup_cons, List.mem_cons, not_or, List.not_mem_nil, not_false_eq_true, List.nodup_nil, and_true]
  exact ⟨⟨by omega, by omega, by omega, by omega, by omega⟩, ⟨by omega, by omega, by omega, by omega⟩, ⟨by omega, d1, d2⟩, ⟨by omega, by omega⟩, d3⟩
theorem typer_ret {F X : Ty} {r me mc mi : Nat} {h : Hp} (R : RS F X r me mc mi h) (l1 : r < h.next) (l2 : me < h.next) (l3 : mi < h.next) (nd : r ≠ mi ∧ r ≠ me ∧ mi ≠ me) :
  Ret ctx Or Xo 49 [.ptr r 0 0] h (fun v h' => v = .ptr (h.next + 1) 0 0 ∧ Ext h h' ∧ TY F X ⟨h.next + 1, r, h.next, h.next + 2, h.next + 3, mi, me, mc⟩ h' store0 ⟨.d .nilslice, .d .nilslice, .d .nilslice, .d .nilslice⟩ [0, 0, 0, 0, 0]) := by
 refine body (env := [(0, .ptr r 0 0)]) (rs := [.tmp 2]) Tryz.func49 rfl rfl Tryz.ntmps49 rfl rfl ?_
 refine s_seq <| s_region <| s_val rfl rfl rfl rfl <| s_nil <| s_seq <| s_region ?_
 refine s_ret1 (new_ret) rfl rfl rfl rfl ?_
 rintro _ h1 ⟨rfl, hS1, e1, hn1⟩
 have hR : ∀ {h' : Hp}, Ext h h' → RS F X r me mc mi h' := fun e => ⟨(e.keep _ l1).trans R.gr, (e.keep _ l2).trans R.ge, (e.keep _ l3).trans R.gm⟩
 refine s_val rfl rfl rfl rfl <| s_val rfl rfl rfl rfl ?_
 refine s_newVar (cs := [.ptr h.next 0 0, .ptr r 0 0, .d .nilslice, .d .nilslice, vint 0, vint 0, vint 0]) rfl rfl rfl rfl ?_
 rw [hn1]
 generalize hh2 : h1.newV [.ptr h.next 0 0, .ptr r 0 0, .d .nilslice, .d .nilslice, vint 0, vint 0, vint 0] 97 = h2
 have e2 : Ext h1 h2 := by rw [← hh2]; exact Ext.newV ..
 have gt2 : h2.get (h.next + 1) = some (.cells [.ptr h.next 0 0, .ptr r 0 0, .d .nilslice, .d .nilslice, vint 0, vint 0, vint 0] 0) := by rw [← hh2, ← hn1]; exact if_pos rfl
 have hn2 : h2.next = h.next + 2 := by rw [← hh2]; show h1.next + 1 = _; omega
 refine s_val rfl rfl rfl rfl <| s_nil <| s_seq <| s_region ?_
 iterate 4 refine s_val rfl rfl rfl rfl ?_
 refine s_val rfl (o_load rfl rfl rfl (hR (e1.trans e2)).gr rfl rfl) rfl rfl ?_
 refine s_val rfl rfl rfl rfl ?_
 refine s_newCells (cs := nats [0, 0, 0, 0, 0]) (len := 5) (sz := 1) (e := 3) rfl rfl rfl rfl ?_
 rw [hn2]
 generalize hh3 : h2.newC (nats [0, 0, 0, 0, 0]) 3 = h3
 have e3 : Ext h2 h3 := by rw [← hh3]; exact Ext.newC ..
 have gt3 := (e3.keep (h.next + 1) (by omega)).trans gt2
 have gn3 : h3.get (h.next + 2) = some (.cells (nats [0, 0, 0, 0, 0]) 0) := by rw [← hh3, ← hn2]; exact if_pos rfl
 have hn3 : h3.next = h.next + 3 := by rw [← hh3]; show h2.next + 1 = _; omega
 refine s_val rfl rfl rfl rfl <| s_val rfl rfl rfl rfl ?_
 refine s_setH rfl (o_store1 rfl rfl rfl rfl rfl rfl rfl rfl gt3 (Nat.le_of_ble_eq_true rfl)) rfl ?_
 refine s_nil ?_
 generalize hh4 : h3.set (h.next + 1) (.cells (putAt [.ptr h.next 0 0, .ptr r 0 0, .d .nilslice, .d .nilslice, vint 0, vint 0, vint 0] (0 + 2) [.msl (h.next + 2) 0 5 0 1]) 0) = h4
 have gt4 : h4.get (h.next + 1) = some (.cells [.ptr h.next 0 0, .ptr r 0 0, .msl (h.next + 2) 0 5 0 1, .d .nilslice, vint 0, vint 0, vint 0] 0) := by rw [← hh4]; exact Hp.get_set_eq
 have gn4 := (show h4.get (h.next + 2) = h3.get (h.next + 2) by rw [← hh4]; exact Hp.get_set_ne (by omega)).trans gn3
 have hn4 : h4.next = h.next + 3 := by rw [← hh4]; exact hn3
 have e04 : Ext h h4 := by rw [← hh4]; exact ((e1.trans e2).trans e3).set (by omega)
 have k4 : h4.get h.next = h1.get h.next := by rw [← hh4, Hp.get_set_ne (by omega), e3.keep _ (by omega), e2.keep _ (by omega)]
 refine s_seq <| s_region ?_
 iterate 4 refine s_val rfl rfl rfl rfl ?_
 refine s_val rfl (o_load rfl rfl rfl (hR e04).gr rfl rfl) rfl rfl ?_
 refine s_val rfl rfl rfl rfl ?_
 refine s_newCells (cs := nats [0, 0, 0, 0, 0]) (len := 5) (sz := 1) (e := 3) rfl rfl rfl rfl ?_
 rw [hn4]
 generalize hh5 : h4.newC (nats [0, 0, 0, 0, 0]) 3 = h5
 have e5 : Ext h4 h5 := by rw [← hh5]; exact Ext.newC ..
 have gt5 := (e5.keep (h.next + 1) (by omega)).trans gt4
 have gn5 := (e5.keep (h.next + 2) (by omega)).trans gn4
 have gl5 : h5.get (h.next + 3) = some (.cells (nats [0, 0, 0, 0, 0]) 0) := by rw [← hh5, ← hn4]; exact if_pos rfl
 have hn5 : h5.next = h.next + 4 := by rw [← hh5]; show h4.next + 1 = _; omega
 refine s_val rfl rfl rfl rfl <| s_val rfl rfl rfl rfl ?_
 refine s_setH rfl (o_store1 rfl rfl rfl rfl rfl rfl rfl rfl gt5 (Nat.le_of_ble_eq_true rfl)) rfl ?_
 refine s_nil ?_
 generalize hh6 : h5.set (h.next + 1) (.cells (putAt [.ptr h.next 0 0, .ptr r 0 0, .msl (h.next + 2) 0 5 0 1, .d .nilslice, vint 0, vint 0, vint 0] (0 + 3) [.msl (h.next + 3) 0 5 0 1]) 0) = h6
 have gt6 : h6.get (h.next + 1) = some (.cells [.ptr h.next 0 0, .ptr r 0 0, .msl (h.next + 2) 0 5 0 1, .msl (h.next + 3) 0 5 0 1, vint 0, vint 0, vint 0] 0) := by rw [← hh6]; exact Hp.get_set_eq
 have gn6 := (show h6.get (h.next + 2) = h5.get (h.next + 2) by rw [← hh6]; exact Hp.get_set_ne (by omega)).trans gn5
 have gl6 := (show h6.get (h.next + 3) = h5.get (h.next + 3) by rw [← hh6]; exact Hp.get_set_ne (by omega)).trans gl5
 have hn6 : h6.next = h.next + 4 := by rw [← hh6]; exact hn5
 have e06 : Ext h h6 := by rw [← hh6]; exact (e04.trans e5).set (by omega)
 have k6 : h6.get h.next = h1.get h.next := by rw [← hh6, Hp.get_set_ne (by omega), e5.keep _ (by omega), k4]
 refine s_seq <| s_seq <| s_region ?_
 iterate 3 refine s_val rfl rfl rfl rfl ?_
 refine s_val rfl (o_load rfl rfl rfl gt6 rfl rfl) rfl rfl ?_
 refine s_val rfl rfl rfl rfl <| s_val rfl rfl rfl rfl <| s_nil <| s_block ?_
 refine s_loop ?_
 refine wpR_less (σ' := ⟨[(0, .ptr r 0 0), (3, .ptr (h.next + 1) 0 0), (33, vint (5 : Nat)), (34, vint (0 : Nat))], [], h6⟩) ⟨⟨rfl, rfl, rfl, rfl, trivial⟩, trivial, rfl⟩ ?_
 refine wpR_round ?_
 refine s_seq <| s_region <| s_val rfl rfl rfl rfl <| s_nil <| s_seq <| s_cond_t rfl <| s_skip <| s_seq <| s_block <| s_seq <| s_region <| s_val rfl rfl rfl rfl <| s_val rfl rfl rfl rfl <| s_nil <| s_region ?_
 iterate 3 refine s_val rfl rfl rfl rfl ?_
 refine s_val rfl (o_load rfl rfl rfl gt6 rfl rfl) rfl rfl ?_
 refine s_val rfl rfl rfl rfl <| s_val rfl rfl rfl rfl ?_
 refine s_setH rfl (o_store1 rfl rfl rfl rfl rfl rfl rfl rfl gl6 (Nat.le_of_ble_eq_true rfl)) rfl ?_
 refine s_nil <| s_region <| s_val rfl rfl rfl rfl <| s_val rfl rfl rfl rfl <| s_nil ?_
 generalize hhhA1 : h6.set (h.next + 3) (.cells [vint (-1), vint (0 : Nat), vint (0 : Nat), vint (0 : Nat), vint (0 : Nat)] 0) = hA1
 have gtA1 := (show hA1.get (h.next + 1) = h6.get (h.next + 1) by rw [← hhhA1]; exact Hp.get_set_ne (by omega)).trans gt6
 have gnA1 := (show hA1.get (h.next + 2) = h6.get (h.next + 2) by rw [← hhhA1]; exact Hp.get_set_ne (by omega)).trans gn6
 have glA1 : hA1.get (h.next + 3) = some (.cells [vint (-1), vint (0 : Nat), vint (0 : Nat), vint (0 : Nat), vint (0 : Nat)] 0) := by rw [← hhhA1]; exact Hp.get_set_eq
 have hnA1 : hA1.next = h.next + 4 := by rw [← hhhA1]; exact hn6
 have eA1 : Ext h hA1 := by rw [← hhhA1]; exact e06.set (by omega)
 have kA1 : hA1.get h.next = h1.get h.next := by rw [← hhhA1, Hp.get_set_ne (by omega), k6]
 refine wpR_less (σ' := ⟨[(0, .ptr r 0 0), (3, .ptr (h.next + 1) 0 0), (33, vint (5 : Nat)), (34, vint (1 : Nat))], [], hA1⟩) ⟨⟨rfl, rfl, rfl, rfl, trivial⟩, trivial, by rw [← hhhA1]; rfl⟩ ?_
 refine wpR_round ?_
 refine s_seq <| s_region <| s_val rfl rfl rfl rfl <| s_nil <| s_seq <| s_cond_t rfl <| s_skip <| s_seq <| s_block <| s_seq <| s_region <| s_val rfl rfl rfl rfl <| s_val rfl rfl rfl rfl <| s_nil <| s_region ?_
 iterate 3 refine s_val rfl rfl rfl rfl ?_
 refine s_val rfl (o_load rfl rfl rfl gtA1 rfl rfl) rfl rfl ?_
 refine s_val rfl rfl rfl rfl <| s_val rfl rfl rfl rfl ?_
 refine s_setH rfl (o_store1 rfl rfl rfl rfl rfl rfl rfl rfl glA1 (Nat.le_of_ble_eq_true rfl)) rfl ?_
 refine s_nil <| s_region <| s_val rfl rfl rfl rfl <| s_val rfl rfl rfl rfl <| s_nil ?_
 generalize hhhA2 : hA1.set (h.next + 3) (.cells [vint (-1), vint (-1), vint (0 : Nat), vint (0 : Nat), vint (0 : Nat)] 0) = hA2
 have gtA2 := (show hA2.get (h.next + 1) = hA1.get (h.next + 1) by rw [← hhhA2]; exact Hp.get_set_ne (by omega)).trans gtA1
 have gnA2 := (show hA2.get (h.next + 2) = hA1.get (h.next + 2) by rw [← hhhA2]; exact Hp.get_set_ne (by omega)).trans gnA1
 have glA2 : hA2.get (h.next + 3) = some (.cells [vint (-1), vint (-1), vint (0 : Nat), vint (0 : Nat), vint (0 : Nat)] 0) := by rw [← hhhA2]; exact Hp.get_set_eq
 have hnA2 : hA2.next = h.next + 4 := by rw [← hhhA2]; exact hnA1
 have eA2 : Ext h hA2 := by rw [← hhhA2]; exact eA1.set (by omega)
 have kA2 : hA2.get h.next = h1.get h.next := by rw [← hhhA2, Hp.get_set_ne (by omega), kA1]
 refine wpR_less (σ' := ⟨[(0, .ptr r 0 0), (3, .ptr (h.next + 1) 0 0), (33, vint (5 : Nat)), (34, vint (2 : Nat))], [], hA2⟩) ⟨⟨rfl, rfl, rfl, rfl, trivial⟩, trivial, by rw [← hhhA2]; rfl⟩ ?_
 refine wpR_round ?_
 refine s_seq <| s_region <| s_val rfl rfl rfl rfl <| s_nil <| s_seq <| s_cond_t rfl <| s_skip <| s_seq <| s_block <| s_seq <| s_region <| s_val rfl rfl rfl rfl <| s_val rfl rfl rfl rfl <| s_nil <| s_region ?_
 iterate 3 refine s_val rfl rfl rfl rfl ?_
 refine s_val rfl (o_load rfl rfl rfl gtA2 rfl rfl) rfl rfl ?_
 refine s_val rfl rfl rfl rfl <| s_val rfl rfl rfl rfl ?_
 refine s_setH rfl (o_store1 rfl rfl rfl rfl rfl rfl rfl rfl glA2 (Nat.le_of_ble_eq_true rfl)) rfl ?_
 refine s_nil <| s_region <| s_val rfl rfl rfl rfl <| s_val rfl rfl rfl rfl <| s_nil ?_
 generalize hhhA3 : hA2.set (h.next + 3) (.cells [vint (-1), vint (-1), vint (-1), vint (0 : Nat), vint (0 : Nat)] 0) = hA3
 have gtA3 := (show hA3.get (h.next + 1) = hA2.get (h.next + 1) by rw [← hhhA3]; exact Hp.get_set_ne (by omega)).trans gtA2
 have gnA3 := (show hA3.get (h.next + 2) = hA2.get (h.next + 2) by rw [← hhhA3]; exact Hp.get_set_ne (by omega)).trans gnA2
 have glA3 : hA3.get (h.next + 3) = some (.cells [vint (-1), vint (-1), vint (-1), vint (0 : Nat), vint (0 : Nat)] 0) := by rw [← hhhA3]; exact Hp.get_set_eq
 have hnA3 : hA3.next = h.next + 4 := by rw [← hhhA3]; exact hnA2
 have eA3 : Ext h hA3 := by rw [← hhhA3]; exact eA2.set (by omega)
 have kA3 : hA3.get h.next = h1.get h.next := by rw [← hhhA3, Hp.get_set_ne (by omega), kA2]
 refine wpR_less (σ' := ⟨[(0, .ptr r 0 0), (3, .ptr (h.next + 1) 0 0), (33, vint (5 : Nat)), (34, vint (3 : Nat))], [], hA3⟩) ⟨⟨rfl, rfl, rfl, rfl, trivial⟩, trivial, by rw [← hhhA3]; rfl⟩ ?_
 refine wpR_round ?_
 refine s_seq <| s_region <| s_val rfl rfl rfl rfl <| s_nil <| s_seq <| s_cond_t rfl <| s_skip <| s_seq <| s_block <| s_seq <| s_region <| s_val rfl rfl rfl rfl <| s_val rfl rfl rfl rfl <| s_nil <| s_region ?_
 iterate 3 refine s_val rfl rfl rfl rfl ?_
 refine s_val rfl (o_load rfl rfl rfl gtA3 rfl rfl) rfl rfl ?_
 refine s_val rfl rfl rfl rfl <| s_val rfl rfl rfl rfl ?_
 refine s_setH rfl (o_store1 rfl rfl rfl rfl rfl rfl rfl rfl glA3 (Nat.le_of_ble_eq_true rfl)) rfl ?_
 refine s_nil <| s_region <| s_val rfl rfl rfl rfl <| s_val rfl rfl rfl rfl <| s_nil ?_
 generalize hhhA4 : hA3.set (h.next + 3) (.cells [vint (-1), vint (-1), vint (-1), vint (-1), vint (0 : Nat)] 0) = hA4
 have gtA4 := (show hA4.get (h.next + 1) = hA3.get (h.next + 1) by rw [← hhhA4]; exact Hp.get_set_ne (by omega)).trans gtA3
 have gnA4 := (show hA4.get (h.next + 2) = hA3.get (h.next + 2) by rw [← hhhA4]; exact Hp.get_set_ne (by omega)).trans gnA3
 have glA4 : hA4.get (h.next + 3) = some (.cells [vint (-1), vint (-1), vint (-1), vint (-1), vint (0 : Nat)] 0) := by rw [← hhhA4]; exact Hp.get_set_eq
 have hnA4 : hA4.next = h.next + 4 := by rw [← hhhA4]; exact hnA3
 have eA4 : Ext h hA4 := by rw [← hhhA4]; exact eA3.set (by omega)
 have kA4 : hA4.get h.next = h1.get h.next := by rw [← hhhA4, Hp.get_set_ne (by omega), kA3]
 refine wpR_less (σ' := ⟨[(0, .ptr r 0 0), (3, .ptr (h.next + 1) 0 0), (33, vint (5 : Nat)), (34, vint (4 : Nat))], [], hA4⟩) ⟨⟨rfl, rfl, rfl, rfl, trivial⟩, trivial, by rw [← hhhA4]; rfl⟩ ?_
 refine wpR_round ?_
 refine s_seq <| s_region <| s_val rfl rfl rfl rfl <| s_nil <| s_seq <| s_cond_t rfl <| s_skip <| s_seq <| s_block <| s_seq <| s_region <| s_val rfl rfl rfl rfl <| s_val rfl rfl rfl rfl <| s_nil <| s_region ?_
 iterate 3 refine s_val rfl rfl rfl rfl ?_
 refine s_val rfl (o_load rfl rfl rfl gtA4 rfl rfl) rfl rfl ?_
 refine s_val rfl rfl rfl rfl <| s_val rfl rfl rfl rfl ?_
 refine s_setH rfl (o_store1 rfl rfl rfl rfl rfl rfl rfl rfl glA4 (Nat.le_of_ble_eq_true rfl)) rfl ?_
 refine s_nil <| s_region <| s_val rfl rfl rfl rfl <| s_val rfl rfl rfl rfl <| s_nil ?_
 generalize hhhA5 : hA4.set (h.next + 3) (.cells [vint (-1), vint (-1), vint (-1), vint (-1), vint (-1)] 0) = hA5
 have gtA5 := (show hA5.get (h.next + 1) = hA4.get (h.next + 1) by rw [← hhhA5]; exact Hp.get_set_ne (by omega)).trans gtA4
 have gnA5 := (show hA5.get (h.next + 2) = hA4.get (h.next + 2) by rw [← hhhA5]; exact Hp.get_set_ne (by omega)).trans gnA4
 have glA5 : hA5.get (h.next + 3) = some (.cells [vint (-1), vint (-1), vint (-1), vint (-1), vint (-1)] 0) := by rw [← hhhA5]; exact Hp.get_set_eq
 have hnA5 : hA5.next = h.next + 4 := by rw [← hhhA5]; exact hnA4
 have eA5 : Ext h hA5 := by rw [← hhhA5]; exact eA4.set (by omega)
 have kA5 : hA5.get h.next = h1.get h.next := by rw [← hhhA5, Hp.get_set_ne (by omega), kA4]
 refine wpR_less (σ' := ⟨[(0, .ptr r 0 0), (3, .ptr (h.next + 1) 0 0), (33, vint (5 : Nat)), (34, vint (5 : Nat))], [], hA5⟩) ⟨⟨rfl, rfl, rfl, rfl, trivial⟩, trivial, by rw [← hhhA5]; rfl⟩ ?_
 refine wpR_round ?_
 refine s_seq <| s_region <| s_val rfl rfl rfl rfl <| s_nil <| s_seq <| s_cond_f rfl ?_
 refine s_exit ?_
 refine s_seq <| s_seq <| s_region ?_
 iterate 3 refine s_val rfl rfl rfl rfl ?_
 refine s_val rfl (o_load rfl rfl rfl (hR eA5).gr rfl rfl) rfl rfl ?_
 refine s_val rfl rfl rfl rfl <| s_val rfl rfl rfl rfl <| s_nil <| s_block ?_
 refine s_loop ?_
 refine wpR_less (σ' := ⟨[(3, .ptr (h.next + 1) 0 0), (47, .d nodesD), (48, vint (5 : Nat)), (49, vint (0 : Nat))], [], hA5⟩) ⟨⟨rfl, rfl, rfl, rfl, trivial⟩, trivial, rfl⟩ ?_
 refine wpR_round ?_
 refine s_seq <| s_region <| s_val rfl rfl rfl rfl <| s_nil <| s_seq <| s_cond_t rfl <| s_skip <| s_seq <| s_block <| s_seq <| s_region ?_
 iterate 3 refine s_val rfl rfl rfl rfl ?_
 refine s_newL rfl rfl rfl rfl rfl ?_
 refine s_val rfl rfl rfl rfl ?_
 refine s_setL rfl rfl rfl ?_
 refine s_nil <| s_seq <| s_region ?_
 iterate 8 refine s_val rfl rfl rfl rfl ?_
 refine s_nil <| s_cond_f rfl <| s_skip <| s_region <| s_val rfl rfl rfl rfl <| s_val rfl rfl rfl rfl <| s_nil ?_
 refine wpR_less (σ' := ⟨[(3, .ptr (h.next + 1) 0 0), (47, .d nodesD), (48, vint (5 : Nat)), (49, vint (1 : Nat))], [], hA5⟩) ⟨⟨rfl, rfl, rfl, rfl, trivial⟩, trivial, rfl⟩ ?_
 refine wpR_round ?_
 refine s_seq <| s_region <| s_val rfl rfl rfl rfl <| s_nil <| s_seq <| s_cond_t rfl <| s_skip <| s_seq <| s_block <| s_seq <| s_region ?_
 iterate 3 refine s_val rfl rfl rfl rfl ?_
 refine s_newL rfl rfl rfl rfl rfl ?_
 refine s_val rfl rfl rfl rfl ?_
 refine s_setL rfl rfl rfl ?_
 refine s_nil <| s_seq <| s_region ?_
 iterate 8 refine s_val rfl rfl rfl rfl ?_
 refine s_nil <| s_cond_f rfl <| s_skip <| s_region <| s_val rfl rfl rfl rfl <| s_val rfl rfl rfl rfl <| s_nil ?_
 refine wpR_less (σ' := ⟨[(3, .ptr (h.next + 1) 0 0), (47, .d nodesD), (48, vint (5 : Nat)), (49, vint (2 : Nat))], [], hA5⟩) ⟨⟨rfl, rfl, rfl, rfl, trivial⟩, trivial, rfl⟩ ?_
 refine wpR_round ?_
 refine s_seq <| s_region <| s_val rfl rfl rfl rfl <| s_nil <| s_seq <| s_cond_t rfl <| s_skip <| s_seq <| s_block <| s_seq <| s_region ?_
 iterate 3 refine s_val rfl rfl rfl rfl ?_
 refine s_newL rfl rfl rfl rfl rfl ?_
 refine s_val rfl rfl rfl rfl ?_
 refine s_setL rfl rfl rfl ?_
 refine s_nil <| s_seq <| s_region ?_
 iterate 8 refine s_val rfl rfl rfl rfl ?_
 refine s_nil <| s_cond_f rfl <| s_skip <| s_region <| s_val rfl rfl rfl rfl <| s_val rfl rfl rfl rfl <| s_nil ?_
 refine wpR_less (σ' := ⟨[(3, .ptr (h.next + 1) 0 0), (47, .d nodesD), (48, vint (5 : Nat)), (49, vint (3 : Nat))], [], hA5⟩) ⟨⟨rfl, rfl, rfl, rfl, trivial⟩, trivial, rfl⟩ ?_
 refine wpR_round ?_
 refine s_seq <| s_region <| s_val rfl rfl rfl rfl <| s_nil <| s_seq <| s_cond_t rfl <| s_skip <| s_seq <| s_block <| s_seq <| s_region ?_
 iterate 3 refine s_val rfl rfl rfl rfl ?_
 refine s_newL rfl rfl rfl rfl rfl ?_
 refine s_val rfl rfl rfl rfl ?_
 refine s_setL rfl rfl rfl ?_
 refine s_nil <| s_seq <| s_region ?_
 iterate 8 refine s_val rfl rfl rfl rfl ?_
 refine s_nil <| s_cond_f rfl <| s_skip <| s_region <| s_val rfl rfl rfl rfl <| s_val rfl rfl rfl rfl <| s_nil ?_
 refine wpR_less (σ' := ⟨[(3, .ptr (h.next + 1) 0 0), (47, .d nodesD), (48, vint (5 : Nat)), (49, vint (4 : Nat))], [], hA5⟩) ⟨⟨rfl, rfl, rfl, rfl, trivial⟩, trivial, rfl⟩ ?_
 refine wpR_round ?_
 refine s_seq <| s_region <| s_val rfl rfl rfl rfl <| s_nil <| s_seq <| s_cond_t rfl <| s_skip <| s_seq <| s_block <| s_seq <| s_region ?_
 iterate 3 refine s_val rfl rfl rfl rfl ?_
 refine s_newL rfl rfl rfl rfl rfl ?_
 refine s_val rfl rfl rfl rfl ?_
 refine s_setL rfl rfl rfl ?_
 refine s_nil <| s_seq <| s_region ?_
 iterate 4 refine s_val rfl rfl rfl rfl ?_
 iterate 3 refine s_no rfl rfl rfl ?_
 refine s_val rfl rfl rfl rfl <| s_nil <| s_cond_t rfl ?_
 refine s_drawn { ord := [0, 1, 2, 3, 4, 5, 6, 7, 8, 9, 10], wr := 1024, cl := [0, 1, 3, 7, 0, 16, 48, 112, 0, 511, 1023] } (by kernel_rfl) ?_
 iterate 3 refine d_val rfl rfl rfl rfl rfl ?_
 refine d_val rfl rfl (o_load rfl rfl rfl gtA5 rfl rfl) rfl rfl ?_
 iterate 6 refine d_val rfl rfl rfl rfl rfl ?_
 refine d_setH rfl rfl (o_store1 rfl rfl rfl rfl rfl rfl rfl rfl glA5 (Nat.le_of_ble_eq_true rfl)) rfl ?_
 refine d_nil ⟨trivial, trivial, ?_⟩
 refine s_region <| s_val rfl rfl rfl rfl <| s_val rfl rfl rfl rfl <| s_nil ?_
 generalize hhB : hA5.set (h.next + 3) (.cells lets 0) = hB
 have gtB := (show hB.get (h.next + 1) = hA5.get (h.next + 1) by rw [← hhB]; exact Hp.get_set_ne (by omega)).trans gtA5
 have gnB := (show hB.get (h.next + 2) = hA5.get (h.next + 2) by rw [← hhB]; exact Hp.get_set_ne (by omega)).trans gnA5
 have glB : hB.get (h.next + 3) = some (.cells lets 0) := by rw [← hhB]; exact Hp.get_set_eq
 have hnB : hB.next = h.next + 4 := by rw [← hhB]; exact hnA5
 have eB : Ext h hB := by rw [← hhB]; exact eA5.set (by omega)
 have kB : hB.get h.next = h1.get h.next := by rw [← hhB, Hp.get_set_ne (by omega), kA5]
 refine wpR_less (σ' := ⟨[(3, .ptr (h.next + 1) 0 0), (47, .d nodesD), (48, vint (5 : Nat)), (49, vint (5 : Nat))], [], hB⟩) ⟨⟨rfl, rfl, rfl, rfl, trivial⟩, trivial, by rw [← hhB]; rfl⟩ ?_
 refine wpR_round ?_
 refine s_seq <| s_region <| s_val rfl rfl rfl rfl <| s_nil <| s_seq <| s_cond_f rfl ?_
 refine s_exit ?_
 refine s_seq <| s_region <| s_val rfl rfl rfl rfl <| s_val rfl rfl rfl rfl <| s_nil <| s_ret ?_
 have hSB : StoreAt hB h.next store0 ⟨.d .nilslice, .d .nilslice, .d .nilslice, .d .nilslice⟩ := hS1.keep (by omega) fun id h7 => by
  have h8 : id = h.next := by simpa [At.own, AV.own] using h7
  rw [h8]; exact kB
 exact ⟨.inr rfl, _, rfl, rfl, eB, ty_new l1 l2 l3 nd (hR eB) hSB gtB gnB glB hnB⟩
end Go.Dv.Us
