/- A part of the proof of InferUses, second form: for every input of bulk at most 1048576 the call returns true and the arguments read as they did. Its condition: that bulk. -/
import Derived.Test.YtanhfhjoeoinoaaGreatDoorU29
/- strings.Builder. -/
namespace Go.Dv.Us
open Go.Dv.K Go.Proofs
section
variable {C : Ctx} {Or : FuncId → List AV → Hp → AV → Hp → Prop} {Xo : FuncId → List AV → AV → Prop} {X : Fr} {K : SSt → Prop} {K2 : List SSt → SSt → Prop} {ops : Array Oper} {l : List Oper} {k : Nat} {o : Oper} {i : Nat} {li : List Nat} {acc : List SSt}
 {env : List (Nat × AV)} {loc : List (Nat × List AV)} {h : Hp} {d : Nat} {v : AV}
theorem s_ext {f : FuncId} {args : List AV} (hx : Xo f args v) (hw : wantedA ops (lk env) o = some true) (hc : callOf C (lk env) o = some (.call f args)) (hd : o.dst = some d) (ho : okS X d = true)
  (hk : wpL C Or Xo X ops l (k + 1) ⟨(d, v) :: env, loc, h⟩ K) : wpL C Or Xo X ops (o :: l) k ⟨env, loc, h⟩ K := by
 obtain ⟨h1, h2⟩ := okS_spec ho
 exact s_one (σ := ⟨env, loc, h⟩) (σ' := ⟨(d, v) :: env, loc, h⟩) (fun hoo => .ext (σ := SSt.to ⟨env, loc, h⟩) hoo hw hc hx (by rw [hd]; exact putV_S (σ := ⟨env, loc, h⟩) h1 h2)) hk
theorem s_conv {src dst : TypeId} {x : Operand} {id off ver : Nat} (hw : wantedA ops (lk env) o = some true) (hop : o.op = .convert src dst x) (hx : rho C (lk env) x = some (.ptr id off ver)) (hc : convP C h src dst id off ver = true) (hd : o.dst = some d) (ho : okS X d = true)
  (hk : wpL C Or Xo X ops l (k + 1) ⟨(d, .ptr id off ver) :: env, loc, h⟩ K) : wpL C Or Xo X ops (o :: l) k ⟨env, loc, h⟩ K := by
 obtain ⟨h1, h2⟩ := okS_spec ho
 exact s_one (σ := ⟨env, loc, h⟩) (σ' := ⟨(d, .ptr id off ver) :: env, loc, h⟩) (fun hoo => .conv (σ := SSt.to ⟨env, loc, h⟩) hoo hw hop hx hc (by rw [hd]; exact putV_S (σ := ⟨env, loc, h⟩) h1 h2)) hk
theorem d_str {c : Call} {id off ver : Nat} {n : Int} {s : List UInt8} (hi : ops[i]? = some o) (hw : wantedA ops (lk env) o = some true) (hop : o.op = .call c) (hcal : c.callee = .builtin .unsafeString) (hx : evalArgs (rho C (lk env)) c.args.toList = some [.ptr id off ver, .d (.int .i64 n)])
  (hs : strP C h c.argTypes id off ver n = some s) (hd : o.dst = some d) (ho : okS X d = true)
  (hk : wpO C Or Xo X ops li (⟨env, loc, h⟩ :: acc) ⟨(d, .d (.str s)) :: env, loc, h.del id⟩ K2) : wpO C Or Xo X ops (i :: li) acc ⟨env, loc, h⟩ K2 := by
 obtain ⟨h1, h2⟩ := okS_spec ho
 exact d_one (σ := ⟨env, loc, h⟩) (σ₁ := ⟨(d, .d (.str s)) :: env, loc, h.del id⟩) (.str (σ := SSt.to ⟨env, loc, h⟩) hi hw hop hcal hx hs (by rw [hd]; exact putV_S (σ := ⟨env, loc, h.del id⟩) h1 h2)) hk
theorem o_bin {A : FAnn} {ρ : Operand → Option AV} {L : Loc} {H : Nat → Option Obj} {op : BinOp} {t u : TypeId} {x y : Operand} {a b : AV} (hop : o.op = .binOp op t x y u) (hx : ρ x = some a) (hy : ρ y = some b) (hv : binA C op t x y a b = some v) : opA C A ρ L H o = some (.val v) := by
 unfold opA
 simp only [hop, hx, hy, hv, Option.map_some]
end
def byts (bs : List UInt8) : List AV := bs.map vbyte
/-- A strings.Builder that holds these bytes. -/
inductive BA (h : Hp) (w : Nat) (bs : List UInt8) : Prop
 | mk {a v : AV} (lt : w < h.next) (st : h.get w = some (.cells [a, v] 0)) (row : RowAt h 1 v bs.length (byts bs)) (nw : w ∉ v.own) (own : a = .ptr w 0 0 ∨ (a = .d .nilptr ∧ h.ty w = some (138, 2))) (el : ∀ id ∈ v.own, h.el id = some 5)
/-- The same, and it was written before. -/
def BW (h : Hp) (w : Nat) (bs : List UInt8) (v : AV) : Prop := w < h.next ∧ h.get w = some (.cells [.ptr w 0 0, v] 0) ∧ RowAt h 1 v bs.length (byts bs) ∧ w ∉ v.own ∧ ∀ id ∈ v.own, h.el id = some 5
theorem BW.ba {h : Hp} {w : Nat} {bs : List UInt8} {v : AV} (b : BW h w bs v) : BA h w bs := .mk b.1 b.2.1 b.2.2.1 b.2.2.2.1 (.inl rfl) b.2.2.2.2
theorem check_ret {h : Hp} {w : Nat} {bs : List UInt8} (B : BA h w bs) : Ret ctx Or Xo 204 [.ptr w 0 0] h (fun _ h' => ∃ v, BW h' w bs v) := by
 cases B with
 | @mk a v lt st row nw own el =>
 rcases own with rfl | ⟨rfl, hty⟩
 ·skip
  refine body (env := [(0, .ptr w 0 0)]) (rs := []) Tryz.func204 rfl rfl Tryz.ntmps204 rfl rfl ?_
  refine s_seq <| s_region ?_
  iterate 3 refine s_val rfl rfl rfl rfl ?_
  refine s_val rfl (o_load rfl rfl rfl st rfl rfl) rfl rfl ?_
  refine s_val rfl rfl rfl rfl <| s_nil <| s_cond_f rfl <| s_seq <| s_region ?_
  iterate 3 refine s_val rfl rfl rfl rfl ?_
  refine s_val rfl (o_load rfl rfl rfl st rfl rfl) rfl rfl ?_
  refine s_val rfl rfl rfl rfl ?_
  refine s_val rfl (o_bin rfl rfl rfl (v := vbool false) (by show (if w = w ∧ 0 = 0 ∧ 0 = 0 then _ else _) = _; rw [if_pos ⟨rfl, rfl, rfl⟩]; rfl)) rfl rfl ?_
  refine s_nil <| s_cond_f rfl <| s_skip ?_
  exact ⟨.inl rfl, _, rfl, v, lt, st, row, nw, el⟩
 ·skip
  refine body (env := [(0, .ptr w 0 0)]) (rs := []) Tryz.func204 rfl rfl Tryz.ntmps204 rfl rfl ?_
  refine s_seq <| s_region ?_
  iterate 3 refine s_val rfl rfl rfl rfl ?_
  refine s_val rfl (o_load rfl rfl rfl st rfl rfl) rfl rfl ?_
  refine s_val rfl rfl rfl rfl <| s_nil <| s_cond_t rfl <| s_region <| s_val rfl rfl rfl rfl <| s_val rfl rfl rfl rfl ?_
  refine s_conv (id := w) (off := 0) (ver := 0) rfl rfl rfl (by show (match h.get w, ctx.T 138 with | some (.cells cs v), some ti => Nat.beq v 0 && Nat.blt 0 cs.length && !(Nat.beq ti.size 0) | _, _ => false) = true; rw [st]; rfl) rfl rfl ?_
  refine s_ext (f := 266) (args := [.ptr w 0 0]) (v := .ptr w 0 0) ⟨rfl, rfl⟩ rfl rfl rfl rfl ?_
  refine s_conv (id := w) (off := 0) (ver := 0) rfl rfl rfl (by show (match h.ty w, ctx.T 138 with | some (e, n), some _ => Nat.beq 0 0 && liesAt ctx.P ctx.P.depth e (n / ctx.P.cellsOf e) 0 138 1 | _, _ => false) = true; rw [hty]; kernel_rfl) rfl rfl ?_
  refine s_val rfl rfl rfl rfl <| s_val rfl rfl rfl rfl ?_
  refine s_setH rfl (o_store1 rfl rfl rfl rfl rfl rfl rfl rfl st (Nat.le_of_ble_eq_true rfl)) rfl ?_
  refine s_nil ?_
  refine ⟨.inl rfl, _, rfl, v, lt, Hp.get_set_eq, row.keep (Nat.le_refl _) fun id h1 => Hp.get_set_ne fun h2 => nw (by rw [← h2]; exact h1), nw, el⟩
theorem byts_append (a b : List UInt8) : byts (a ++ b) = byts a ++ byts b := by simp [byts]
theorem byts_cell (bs : List UInt8) : (byts bs).all AV.isCell = true := by
 rw [List.all_eq_true]
 intro x hx
 obtain ⟨c, _, rfl⟩ := List.mem_map.1 hx
 rfl
theorem BW.longer {h h' : Hp} {w : Nat} {bs new : List UInt8} {v v' : AV} (B : BW h w bs v) (L : Longer h v 1 (bs.length + new.length) (byts bs ++ byts new) h' v') (hel : ∀ id ∈ v'.own, h'.el id = some 5) : BW (h'.set w (.cells [.ptr w 0 0, v'] 0)) w (bs ++ new) v' := by
 obtain ⟨lt, st, row, nw, el⟩ := B
 have n1 : w ∉ v'.own := fun h1 => by
  rcases L.own w h1 with h2 | h2
  ·exact nw h2
  ·omega
 refine ⟨Nat.lt_of_lt_of_le lt L.next, Hp.get_set_eq, ?_, n1, hel⟩
 rw [byts_append, List.length_append]
 exact L.row.keep (Nat.le_refl _) fun id h1 => Hp.get_set_ne fun h2 => n1 (by rw [← h2]; exact h1)
section
variable {C : Ctx} {Or : FuncId → List AV → Hp → AV → Hp → Prop} {Xo : FuncId → List AV → AV → Prop} {X : Fr} {K : SSt → Prop} {ops : Array Oper} {l : List Oper} {k : Nat} {o : Oper}
 {env : List (Nat × AV)} {loc : List (Nat × List AV)} {h : Hp} {d : Nat} {v : AV} {sz len : Nat} {cs : List AV}
variable {t : TypeId} {e : TypeId} {b1 : Nat} {b2 : Bool} {b3 : Nat} {b4 : List DV} {ei t2i : TI} {x : AV} {n : Nat} {new : List AV} {c : Call}
/-- A row is made longer, and what its elements are is known. -/
theorem s_appendE (r : RowAt h sz v len cs) (hel : ∀ id ∈ v.own, h.el id = some e) (hw : wantedA ops (lk env) o = some true) (hop : o.op = .call c) (hcal : c.callee = .builtin .append) (hargs : evalArgs (rho C (lk env)) c.args.toList = some [v, x]) (htt : c.argTypes[0]? = some t)
  (hT : C.T t = some ⟨.slice e, b1, b2, b3, b4⟩) (hT2 : (c.argTypes[1]?).bind C.T = some t2i) (ha : appendable t2i.k = true) (hE : C.T e = some ei) (hs : ei.size = sz) (hb : ei.bytes ≤ 2 ^ 16)
  (hn : lenA h.get x = some n) (hx : elemsOf h.get sz x = some new) (hc : new.all AV.isCell = true) (hle : n ≤ 2 ^ 26) (hl : new.length = n * sz) (h0 : n ≠ 0) (hlen : len ≤ 2 ^ 26) (hd : o.dst = some d) (ho : okS X d = true)
  (hk : ∀ h' v', Longer h v sz (len + n) (cs ++ new) h' v' → (∀ id ∈ v'.own, h'.el id = some e) → wpL C Or Xo X ops l (k + 1) ⟨(d, v') :: env, loc, h'⟩ K) : wpL C Or Xo X ops (o :: l) k ⟨env, loc, h⟩ K := by
 subst hs
 cases r with
 | nil =>
  refine s_newCells hw (o_append hop hcal hargs htt (appendA_nil hT hT2 ha hE hb hn hx hc hle hl h0)) hd (okS_spec ho).1 (hk _ _ ⟨by rw [Nat.zero_add, List.nil_append]; exact .row (if_pos rfl) hl (Nat.lt_succ_self _), Nat.le_succ _, fun id h1 _ => ?_, fun id h1 => ?_⟩ fun id h1 => ?_)
  ·rw [Hp.get_newC, if_neg (by omega)]
  ·simp [AV.own] at h1; subst h1; exact .inr (Nat.le_refl _)
  ·simp [AV.own] at h1; subst h1; exact if_pos rfl
 | row hg hcl hlt =>
  refine s_grow hw (o_append hop hcal hargs htt (appendA_row hT hT2 ha hE hb hn hx hc hle hl hg hcl hlen)) hd ho (hk _ _ ⟨.row (if_pos rfl) (by simp [hl, hcl, Nat.add_mul]) hlt, Nat.le_refl _, fun id _ h1 => ?_, fun id h1 => ?_⟩ fun id h1 => ?_)
  ·rw [Hp.get_grown, if_neg (by simpa [AV.own] using h1)]
  ·exact .inl (by simpa [AV.own] using h1)
  ·simp [AV.own] at h1; subst h1
   have h2 : h.el id = some e := hel id (by simp [AV.own])
   show (h.keepEl _ e) _ = _
   unfold Hp.keepEl
   rw [if_pos h2]; exact h2
end
theorem byte_ret {h : Hp} {w : Nat} {bs : List UInt8} (B : BA h w bs) (hl : bs.length ≤ 2 ^ 26) (c : UInt8) : Ret ctx Or Xo 129 [.ptr w 0 0, vbyte c] h (fun v h' => BA h' w (bs ++ [c])) := by
 refine body (env := [(0, .ptr w 0 0), (1, vbyte c)]) (rs := [.tmp 4]) Tryz.func129 rfl rfl Tryz.ntmps129 rfl rfl ?_
 refine s_seq <| s_region <| s_val rfl rfl rfl rfl <| s_nil <| s_seq <| s_region <| s_val rfl rfl rfl rfl ?_
 refine s_ret1 (check_ret B) rfl rfl rfl rfl ?_
 rintro _ h1 ⟨v, B1⟩
 have hcell := B1.2.2.1.cell
 refine s_nil <| s_seq <| s_region ?_
 iterate 4 refine s_val rfl rfl rfl rfl ?_
 refine s_val rfl (o_load rfl rfl rfl B1.2.1 rfl rfl) rfl rfl ?_
 refine s_val rfl rfl rfl rfl <| s_val rfl rfl rfl rfl ?_
 refine s_appendE B1.2.2.1 B1.2.2.2.2 rfl rfl rfl (args2 rfl hcell.2.1 rfl rfl) rfl rfl rfl rfl rfl rfl (by decide) rfl (new := byts [c]) rfl rfl (by decide) rfl (by decide) hl rfl rfl ?_
 intro h2 v2 L2 el2
 refine s_val rfl rfl rfl rfl <| s_val rfl rfl rfl rfl ?_
 refine s_setH rfl (o_store1 rfl rfl rfl rfl rfl L2.row.cell.2.2 L2.row.cell.2.1 L2.row.cell.1 ((L2.keep w B1.1 B1.2.2.2.1).trans B1.2.1) (Nat.le_of_ble_eq_true rfl)) rfl ?_
 refine s_nil <| s_seq <| s_region <| s_val rfl rfl rfl rfl <| s_nil <| s_ret ?_
 exact ⟨.inr rfl, _, rfl, (B1.longer (new := [c]) L2 el2).ba⟩
theorem str_ret {h : Hp} {w : Nat} {bs : List UInt8} (B : BA h w bs) (hl : bs.length ≤ 2 ^ 26) {s : List UInt8} (hs : s ≠ []) (hsl : s.length ≤ 2 ^ 26) : Ret ctx Or Xo 130 [.ptr w 0 0, .d (.str s)] h (fun v h' => BA h' w (bs ++ s)) := by
 refine body (env := [(0, .ptr w 0 0), (1, .d (.str s))]) (rs := [.tmp 4, .tmp 5]) Tryz.func130 rfl rfl Tryz.ntmps130 rfl rfl ?_
 refine s_seq <| s_region <| s_val rfl rfl rfl rfl <| s_val rfl rfl rfl rfl <| s_nil <| s_seq <| s_region <| s_val rfl rfl rfl rfl ?_
 refine s_ret1 (check_ret B) rfl rfl rfl rfl ?_
 rintro _ h1 ⟨v, B1⟩
 have hcell := B1.2.2.1.cell
 refine s_nil <| s_seq <| s_region ?_
 iterate 4 refine s_val rfl rfl rfl rfl ?_
 refine s_val rfl (o_load rfl rfl rfl B1.2.1 rfl rfl) rfl rfl ?_
 refine s_val rfl rfl rfl rfl ?_
 refine s_appendE B1.2.2.1 B1.2.2.2.2 rfl rfl rfl (args2 rfl hcell.2.1 rfl rfl) rfl rfl rfl rfl rfl rfl (by decide) (n := s.length) rfl (new := byts s) rfl (byts_cell s) hsl (by simp [byts]) (fun h => hs (List.length_eq_zero_iff.1 h)) hl rfl rfl ?_
 intro h2 v2 L2 el2
 refine s_val rfl rfl rfl rfl <| s_val rfl rfl rfl rfl ?_
 refine s_setH rfl (o_store1 rfl rfl rfl rfl rfl L2.row.cell.2.2 L2.row.cell.2.1 L2.row.cell.1 ((L2.keep w B1.1 B1.2.2.2.1).trans B1.2.1) (Nat.le_of_ble_eq_true rfl)) rfl ?_
 refine s_nil <| s_seq <| s_region ?_
 iterate 4 refine s_val rfl rfl rfl rfl ?_
 refine s_nil <| s_ret ?_
 exact ⟨.inr rfl, _, rfl, (B1.longer L2 el2).ba⟩
theorem between_ret {h : Hp} {w : Nat} {bs : List UInt8} (B : BA h w bs) (hl : bs.length ≤ 2 ^ 26) {s : List UInt8} (hs : s ≠ []) (hsl : s.length ≤ 2 ^ 26) (n : Nat) : Ret ctx Or Xo 133 [.ptr w 0 0, vint n, .d (.str s)] h (fun v h' => BA h' w (bs ++ if n > 0 then s else [])) := by
 refine body (env := [(0, .ptr w 0 0), (1, vint n), (2, .d (.str s))]) (rs := []) Tryz.func133 rfl rfl Tryz.ntmps133 rfl rfl ?_
 refine s_seq <| s_region <| s_val rfl rfl rfl rfl <| s_val rfl rfl rfl rfl <| s_nil ?_
 refine s_if rfl (fun ht => ?_) (fun ht => ?_)
 ·skip
  refine s_region <| s_val rfl rfl rfl rfl <| s_val rfl rfl rfl rfl ?_
  refine s_ret1 (str_ret B hl hs hsl) rfl rfl rfl rfl ?_
  rintro _ h1 B1
  refine s_nil ?_
  refine ⟨.inl rfl, _, rfl, ?_⟩
  rw [if_pos (by have := of_decide_eq_true ht; omega)]; exact B1
 refine s_skip ?_
 refine ⟨.inl rfl, _, rfl, ?_⟩
 rw [if_neg (by have := of_decide_eq_false ht; omega), List.append_nil]; exact B
theorem byteCells : ∀ bs : List UInt8, byteCellsA (byts bs) = some bs
 | [] => rfl
 | c :: bs => by
  show (if 0 ≤ ((c.toNat : Nat) : Int) ∧ ((c.toNat : Nat) : Int) < 256 then match byteCellsA (byts bs) with
   | some l => some (UInt8.ofNat ((c.toNat : Nat) : Int).toNat :: l)
   | none => none else none) = _
  have := c.toNat_lt
  rw [if_pos ⟨Int.natCast_nonneg _, by omega⟩, byteCells bs]
  simp
theorem string_ret {h : Hp} {w : Nat} {bs : List UInt8} (B : BA h w bs) (hb : bs ≠ []) (hl : bs.length ≤ 2 ^ 40) : Ret ctx Or Xo 76 [.ptr w 0 0] h (fun v h' => v = .d (.str bs)) := by
 cases B with
 | @mk a v lt st row nw own el =>
 have hpos : 0 < bs.length := List.length_pos_iff.2 hb
 obtain ⟨id, ver, hv⟩ := row.ne hpos
 subst hv
 have hg := row.get
 have he := el id (by simp [AV.own])
 refine body (env := [(0, .ptr w 0 0)]) (rs := [.tmp 2]) Tryz.func76 rfl rfl Tryz.ntmps76 rfl rfl ?_
 refine s_seq <| s_region <| s_val rfl rfl rfl rfl <| s_nil <| s_seq ?_
 refine s_drawn { ord := [0, 1, 2, 3, 4, 5, 6, 7, 8, 9, 10, 11], wr := 1024, cl := [0, 1, 3, 7, 15, 0, 32, 96, 224, 480, 1023, 2047] } (by kernel_rfl) ?_
 iterate 3 refine d_val rfl rfl rfl rfl rfl ?_
 refine d_val rfl rfl (o_load rfl rfl rfl st rfl rfl) rfl rfl ?_
 refine d_val rfl rfl (by show (if 0 < bs.length then some (Eff.val (.ptr id 0 ver)) else none) = some (Eff.val (.ptr id 0 ver)); rw [if_pos hpos]) rfl rfl ?_
 iterate 3 refine d_val rfl rfl rfl rfl rfl ?_
 refine d_val rfl rfl (o_load rfl rfl rfl st rfl rfl) rfl rfl ?_
 refine d_val rfl rfl rfl rfl rfl ?_
 refine d_str (n := (bs.length : Nat)) (s := bs) rfl rfl rfl rfl rfl (by show (match ctx.T 5, h.el id, h.get id with | some ei, some e', some (.cells cs v) => if e' = 5 ∧ ei.size = 1 ∧ 0 = 0 ∧ v = ver ∧ 0 < ((bs.length : Nat) : Int) ∧ ((bs.length : Nat) : Int) ≤ 2 ^ 40 then match takeExact ((bs.length : Nat) : Int).toNat 0 cs with | some r => byteCellsA r | none => none else none | _, _, _ => none) = _; rw [he, hg, show ctx.T 5 = some ti5 from rfl]; simp only; rw [if_pos ⟨trivial, rfl, trivial, trivial, by omega, by omega⟩, Int.toNat_natCast, takeExact_all (by simp [byts])]; exact byteCells bs) rfl rfl ?_
 refine d_val rfl rfl rfl rfl rfl ?_
 refine d_nil ⟨trivial, trivial, ?_⟩
 refine s_ret ?_
 exact ⟨.inr rfl, _, rfl, rfl⟩
end Go.Dv.Us
/- strconv.Itoa of small numbers. Written by program. -/
namespace Go.Dv.Us
open Go.Dv.K Go.Proofs
theorem itoa_one {n : Int} {s : List UInt8} (h : retIs (.d (.str s)) (ev (kit (knOf [])) (chk0 ctx) 1000000 (.call 131 [vint n] hp0)) = true) (h' : Hp) : Ret ctx Or Xo 131 [vint n] h' (fun v h'' => v = .d (.str s) ∧ h'' = h') := by
 obtain ⟨h0, hb⟩ := ret_of (kit_ok _ (known_all (l := []) (fun x h => by cases h))) h
 exact ⟨_, _, .closed hb rfl rfl, rfl, rfl⟩
theorem itoa1 : retIs (.d (.str [49])) (ev (kit (knOf [])) (chk0 ctx) 1000000 (.call 131 [vint 1] hp0)) = true := by kernel_rfl
theorem itoa2 : retIs (.d (.str [50])) (ev (kit (knOf [])) (chk0 ctx) 1000000 (.call 131 [vint 2] hp0)) = true := by kernel_rfl
theorem itoa3 : retIs (.d (.str [51])) (ev (kit (knOf [])) (chk0 ctx) 1000000 (.call 131 [vint 3] hp0)) = true := by kernel_rfl
theorem itoa4 : retIs (.d (.str [52])) (ev (kit (knOf [])) (chk0 ctx) 1000000 (.call 131 [vint 4] hp0)) = true := by kernel_rfl
theorem itoa5 : retIs (.d (.str [53])) (ev (kit (knOf [])) (chk0 ctx) 1000000 (.call 131 [vint 5] hp0)) = true := by kernel_rfl
theorem itoa6 : retIs (.d (.str [54])) (ev (kit (knOf [])) (chk0 ctx) 1000000 (.call 131 [vint 6] hp0)) = true := by kernel_rfl
theorem itoa7 : retIs (.d (.str [55])) (ev (kit (knOf [])) (chk0 ctx) 1000000 (.call 131 [vint 7] hp0)) = true := by kernel_rfl
theorem itoa8 : retIs (.d (.str [56])) (ev (kit (knOf [])) (chk0 ctx) 1000000 (.call 131 [vint 8] hp0)) = true := by kernel_rfl
theorem itoa9 : retIs (.d (.str [57])) (ev (kit (knOf [])) (chk0 ctx) 1000000 (.call 131 [vint 9] hp0)) = true := by kernel_rfl
theorem itoa10 : retIs (.d (.str [49, 48])) (ev (kit (knOf [])) (chk0 ctx) 1000000 (.call 131 [vint 10] hp0)) = true := by kernel_rfl
theorem itoa11 : retIs (.d (.str [49, 49])) (ev (kit (knOf [])) (chk0 ctx) 1000000 (.call 131 [vint 11] hp0)) = true := by kernel_rfl
theorem itoa_ret {n : Nat} (h1 : 1 ≤ n) (h2 : n ≤ 11) (h : Hp) : Ret ctx Or Xo 131 [vint n] h (fun v h' => (∃ s : List UInt8, v = .d (.str s) ∧ s ≠ [] ∧ s.length ≤ 2) ∧ h' = h) := by
 have key : ∃ s : List UInt8, (s ≠ [] ∧ s.length ≤ 2) ∧ retIs (.d (.str s)) (ev (kit (knOf [])) (chk0 ctx) 1000000 (.call 131 [vint n] hp0)) = true := by
  match n, h1, h2 with
  | 1, _, _ => exact ⟨_, ⟨by decide, by decide⟩, itoa1⟩
  | 2, _, _ => exact ⟨_, ⟨by decide, by decide⟩, itoa2⟩
  | 3, _, _ => exact ⟨_, ⟨by decide, by decide⟩, itoa3⟩
  | 4, _, _ => exact ⟨_, ⟨by decide, by decide⟩, itoa4⟩
  | 5, _, _ => exact ⟨_, ⟨by decide, by decide⟩, itoa5⟩
  | 6, _, _ => exact ⟨_, ⟨by decide, by decide⟩, itoa6⟩
  | 7, _, _ => exact ⟨_, ⟨by decide, by decide⟩, itoa7⟩
  | 8, _, _ => exact ⟨_, ⟨by decide, by decide⟩, itoa8⟩
  | 9, _, _ => exact ⟨_, ⟨by decide, by decide⟩, itoa9⟩
  | 10, _, _ => exact ⟨_, ⟨by decide, by decide⟩, itoa10⟩
  | 11, _, _ => exact ⟨_, ⟨by decide, by decide⟩, itoa11⟩
 obtain ⟨s, hs, hr⟩ := key
 exact (itoa_one hr h).mono fun v h' hv => ⟨⟨s, hv.1, hs⟩, hv.2⟩
end Go.Dv.Us
/- say, sayIn, Show: they answer. -/
namespace Go.Dv.Us
open Go.Dv.K Go.Proofs
mutual
/-- How many bytes a type's words have at most. -/
def Ty.ink : Ty → Nat
 | .mk _ _ s _ az => 10 + s.length + 10 * az.length + Ty.inkL az
def Ty.inkL : List Ty → Nat
 | [] => 0
 | t :: r => Ty.ink t + Ty.inkL r
end
theorem Ty.inkL_append : ∀ l m : List Ty, Ty.inkL (l ++ m) = Ty.inkL l + Ty.inkL m
 | [], m => by simp [Ty.inkL]
 | t :: l, m => by simp only [List.cons_append, Ty.inkL, Ty.inkL_append l m]; omega
theorem Ty.ink_mem {a : Ty} : ∀ {l : List Ty}, a ∈ l → a.ink ≤ Ty.inkL l
 | [], h => by simp at h
 | t :: l, h => by
  simp only [Ty.inkL]
  rcases List.mem_cons.1 h with h1 | h1
  ·subst h1; omega
  ·have := Ty.ink_mem h1; omega
/-- Words were said. -/
def Said (w : Nat) (bs : List UInt8) (n : Nat) (h : Hp) : Prop := ∃ more : List UInt8, more ≠ [] ∧ more.length ≤ n ∧ BA h w (bs ++ more)
def SayOk (t : Ty) : Prop := ∀ {h : Hp} {w : Nat} {bs : List UInt8}, BA h w bs → bs.length + t.ink ≤ 2 ^ 26 → Ret ctx Or Xo 75 [.ptr w 0 0, t.agg] h (fun _ h' => Said w bs t.ink h')
theorem sayIn_ret {t : Ty} (hsay : SayOk t) {h : Hp} {w : Nat} {bs : List UInt8} (B : BA h w bs) (hl : bs.length + t.ink + 2 ≤ 2 ^ 26) (b : Bool) : Ret ctx Or Xo 132 [.ptr w 0 0, t.agg, vbool b] h (fun _ h' => Said w bs (t.ink + 2) h') := by
 refine body (env := [(0, .ptr w 0 0), (1, t.agg), (2, vbool b)]) (rs := []) Tryz.func132 rfl rfl Tryz.ntmps132 rfl rfl ?_
 refine s_seq <| s_region ?_
 refine s_newL rfl (o_boxL rfl rfl rfl rfl (agg_len t) rfl (Ty.cells_isCell t) rfl) rfl rfl rfl ?_
 refine s_nil ?_
 refine s_mid (ι := Hp × List UInt8) (fun j => ⟨[(0, .ptr w 0 0), (2, vbool b), (4, .lptr 4 0)], [(4, t.agg.cells)], j.1⟩) (fun j => BA j.1 w (bs ++ j.2) ∧ j.2.length ≤ 1) ?_ ?_
 ·skip
  refine s_seq <| s_region <| s_val rfl rfl rfl rfl <| s_nil ?_
  refine s_if rfl (fun ht => ?_) (fun ht => ?_)
  ·skip
   refine s_region <| s_val rfl rfl rfl rfl ?_
   refine s_ret1 (byte_ret B (by omega) 40) rfl rfl rfl rfl ?_
   rintro _ h1 B1
   refine s_nil ?_
   exact ⟨(h1, [40]), ⟨B1, Nat.le_refl _⟩, ⟨rfl, rfl, rfl, trivial⟩, ⟨rfl, trivial⟩, rfl⟩
  refine s_skip ?_
  exact ⟨(h, []), ⟨by rw [List.append_nil]; exact B, Nat.zero_le _⟩, ⟨rfl, rfl, rfl, trivial⟩, ⟨rfl, trivial⟩, rfl⟩
 rintro ⟨h1, m1⟩ ⟨B1, l1⟩
 simp only at B1 l1
 refine s_seq <| s_region <| s_val rfl rfl rfl rfl ?_
 refine s_val rfl (o_loadL rfl rfl rfl rfl (agg_take t) (agg_zero t)) rfl rfl ?_
 refine s_ret1 (hsay B1 (by rw [List.length_append]; omega)) rfl rfl rfl rfl ?_
 rintro _ h2 ⟨m2, n2, l2, B2⟩
 refine s_nil <| s_seq <| s_region <| s_val rfl rfl rfl rfl <| s_nil ?_
 refine s_if rfl (fun ht => ?_) (fun ht => ?_)
 ·skip
  refine s_region <| s_val rfl rfl rfl rfl ?_
  refine s_ret1 (byte_ret B2 (by rw [List.length_append, List.length_append]; omega) 41) rfl rfl rfl rfl ?_
  rintro _ h3 B3
  refine s_nil ?_
  refine ⟨.inl rfl, _, rfl, m1 ++ m2 ++ [41], by simp, by simp; omega, ?_⟩
  rw [List.append_assoc, List.append_assoc] at B3
  rw [List.append_assoc]; exact B3
 refine s_skip ?_
 refine ⟨.inl rfl, _, rfl, m1 ++ m2, by simp [n2], by simp; omega, ?_⟩
 rw [List.append_assoc] at B2; exact B2
theorem rowD_at {b : Bool} {az : List Ty} {i : Nat} (hi : i < az.length) : indexAddrA ctx 33 (.d (rowD (b && az.isEmpty) az.length (Ty.cellsL az))) (vint i) = some (.d (.iptr (Ty.cellsL (az.drop i)))) := by
 have hr : rowD (b && az.isEmpty) az.length (Ty.cellsL az) = .imm (Ty.cellsL az) az.length := by
  cases az with
  | nil => exact absurd hi (Nat.not_lt_zero _)
  | cons _ _ => cases b <;> rfl
 rw [hr]
 have h0 : (0 : Int) ≤ i ∧ (i : Int) < (az.length : Nat) := ⟨Int.natCast_nonneg i, Int.ofNat_lt.2 hi⟩
 have ht : ctx.T 33 = some ti33 := rfl
 have he : ctx.T 40 = some ti40 := rfl
 simp only [indexAddrA, intOf?, vint, ht, he, ti33]
 rw [if_pos h0, Int.toNat_natCast]
 show some (AV.d (.iptr ((Ty.cellsL az).drop (i * 4)))) = _
 rw [cellsL_drop]
theorem head_load {H : Nat → Option Obj} {L : Loc} {a : Ty} {r : List Ty} : loadA ctx L H 40 (.d (.iptr (Ty.cellsL (a :: r)))) = some a.agg := by
 have he : ctx.T 40 = some ti40 := rfl
 have ht : takeExact 4 0 (Ty.cellsL (a :: r)) = some a.cells := by
  unfold takeExact
  simp only [Ty.cellsL, List.drop_zero]
  rw [List.take_append_of_le_length (by rw [Ty.cells_length]; exact Nat.le_refl _), List.take_of_length_le (by rw [Ty.cells_length]; exact Nat.le_refl _), if_pos (Ty.cells_length _)]
 simp only [loadA, he, ti40, ht]
 rfl
theorem head_kind {H : Nat → Option Obj} {L : Loc} {a : Ty} {r : List Ty} : loadA ctx L H 3 (.d (.iptr ((Ty.cellsL (a :: r)).drop 0))) = some (.d (.int .i64 a.kind)) := by
 cases a; rfl
/-- A part of a right type that is said. -/
structure Nums (t : Ty) : Prop where
 fit : t.Fit kindOf
 num : ∀ q ∈ t.pre, q.kind = 1 → q.num < 300
 len : ∀ q ∈ t.pre, q.name.length ≤ 2 ^ 20
theorem Nums.part {k n : Int} {s : List UInt8} {b : Bool} {az : List Ty} (h : Nums (.mk k n s b az)) {a : Ty} (ha : a ∈ az) : Nums a :=
 ⟨(Ty.fit_mk.1 h.fit).2 a ha, fun q hq => h.num q (by simp only [Ty.pre, List.mem_cons]; exact .inr (mem_preL.2 ⟨a, ha, hq⟩)), fun q hq => h.len q (by simp only [Ty.pre, List.mem_cons]; exact .inr (mem_preL.2 ⟨a, ha, hq⟩))⟩
theorem letter (x : Nat) (h : x < 300) : (AV.d (.int .u8 (IntKind.u8.wrap (IntKind.i64.wrap (97 + (x : Int).tmod 26))))) = vbyte (UInt8.ofNat (97 + x % 26)) := by
 have h1 : (x : Int).tmod 26 = ((x % 26 : Nat) : Int) := rfl
 rw [h1, wrap_id (by omega) (by omega)]
 unfold vbyte
 congr 2
structure SPx where
 i : Nat
 h : Hp
 m : List UInt8
theorem take_ink {az : List Ty} {i : Nat} (h : i < az.length) : Ty.inkL (az.take (i + 1)) = Ty.inkL (az.take i) + (az.getD i default).ink ∧ Ty.inkL (az.take i) + (az.getD i default).ink ≤ Ty.inkL az := by
 have h1 : az.take (i + 1) = az.take i ++ [az.getD i default] := by
  rw [List.take_add_one]; simp [List.getD_eq_getElem?_getD, h]
 have h2 : Ty.inkL (az.take (i + 1)) = Ty.inkL (az.take i) + (az.getD i default).ink := by rw [h1, Ty.inkL_append]; simp [Ty.inkL]
 refine ⟨h2, ?_⟩
 rw [← h2]
 have h3 : Ty.inkL az = Ty.inkL (az.take (i + 1)) + Ty.inkL (az.drop (i + 1)) := by rw [← Ty.inkL_append, List.take_append_drop]
 omega
theorem drop_head {az : List Ty} {i : Nat} (h : i < az.length) : az.drop i = az.getD i default :: az.drop (i + 1) := by
 rw [List.drop_eq_getElem_cons h]; simp [List.getD_eq_getElem?_getD, h]
theorem say_ret : ∀ (t : Ty), Nums t → SayOk t := by
 intro t
 induction t using Ty.ind with
 | h k n s b az ih =>
  intro hn h w bs B hl
  have hsay : ∀ a ∈ az, SayOk a := fun a ha => ih a ha (hn.part ha)
  have hfit := fits_cases.1 (Ty.fit_mk.1 hn.fit).1
  have hnum := hn.num (.mk k n s b az) (by simp [Ty.pre])
  have hlen : s.length ≤ 2 ^ 20 := hn.len (.mk k n s b az) (by simp [Ty.pre])
  have hink : Ty.ink (.mk k n s b az) = 10 + s.length + 10 * az.length + Ty.inkL az := by simp [Ty.ink]
  rw [hink] at hl ⊢
  clear hn ih hink
  cases hfit with
  | @var n h0 h1 =>
   have hnb : n < 300 := hnum rfl
   obtain ⟨x, rfl⟩ : ∃ x : Nat, n = x := ⟨n.toNat, by omega⟩
   refine body (env := [(0, .ptr w 0 0), (1, (Ty.mk 1 x [] b []).agg)]) (rs := []) Tryz.func75 rfl rfl Tryz.ntmps75 rfl rfl ?_
   refine s_seq <| s_region ?_
   refine s_newL rfl (o_boxL rfl rfl rfl rfl rfl rfl (Ty.cells_isCell _) rfl) rfl rfl rfl ?_
   refine s_nil <| s_seq <| s_region <| s_val rfl rfl rfl rfl <| s_val rfl rfl rfl rfl <| s_nil <| s_block <| s_seq <| s_region <| s_val rfl rfl rfl rfl <| s_val rfl rfl rfl rfl <| s_nil <| s_cond_t rfl <| s_seq <| s_region <| s_val rfl rfl rfl rfl ?_
   refine s_ret1 (byte_ret B (by omega) 39) rfl rfl rfl rfl ?_
   rintro _ h1 B1
   refine s_nil <| s_seq <| s_region ?_
   iterate 5 refine s_val rfl rfl rfl rfl ?_
   refine s_val rfl (o_eq rfl (letter x (by omega))) rfl rfl ?_
   refine s_ret1 (byte_ret B1 (by rw [List.length_append]; simp; omega) _) rfl rfl rfl rfl ?_
   rintro _ h2 B2
   refine s_nil <| s_seq <| s_region ?_
   iterate 3 refine s_val rfl rfl rfl rfl ?_
   refine s_nil ?_
   by_cases hx : 26 ≤ x
   ·refine s_cond_t (congrArg (fun t => some (vbool t)) (decide_eq_true (show ((x : Nat) : Int) ≥ 26 by omega))) ?_
    refine s_region ?_
    iterate 3 refine s_val rfl rfl rfl rfl ?_
    refine s_val rfl (o_eq rfl (show vint (IntKind.i64.wrap ((x : Int).tdiv 26)) = vint ((x / 26 : Nat) : Int) by rw [show (x : Int).tdiv 26 = ((x / 26 : Nat) : Int) from rfl, wrap_id (by omega) (by omega)])) rfl rfl ?_
    refine s_ret1 (itoa_ret (n := x / 26) (by omega) (by omega) _) rfl rfl rfl rfl ?_
    rintro _ h3 ⟨⟨ds, rfl, d1, d2⟩, he3⟩
    subst he3
    refine s_ret1 (str_ret B2 (by simp; omega) d1 (by omega)) rfl rfl rfl rfl ?_
    rintro _ h4 B4
    refine s_nil ?_
    refine ⟨.inl rfl, _, rfl, [39] ++ [UInt8.ofNat (97 + x % 26)] ++ ds, by simp, by simp; omega, ?_⟩
    rw [← List.append_assoc, ← List.append_assoc]; exact B4
   ·refine s_cond_f (congrArg (fun t => some (vbool t)) (decide_eq_false (show ¬ ((x : Nat) : Int) ≥ 26 by omega))) ?_
    refine s_skip ?_
    refine ⟨.inl rfl, _, rfl, [39] ++ [UInt8.ofNat (97 + x % 26)], by simp, by simp; omega, ?_⟩
    rw [← List.append_assoc]; exact B2
  | @con s az hk =>
   have hs0 : s ≠ [] := fun h => by rw [h, kindOf_nil] at hk; cases hk
   refine body (env := [(0, .ptr w 0 0), (1, (Ty.mk 2 0 s b az).agg)]) (rs := []) Tryz.func75 rfl rfl Tryz.ntmps75 rfl rfl ?_
   refine s_seq <| s_region ?_
   refine s_newL rfl (o_boxL rfl rfl rfl rfl rfl rfl (Ty.cells_isCell _) rfl) rfl rfl rfl ?_
   refine s_nil <| s_seq <| s_region <| s_val rfl rfl rfl rfl <| s_val rfl rfl rfl rfl <| s_nil <| s_block <| s_seq <| s_region <| s_val rfl rfl rfl rfl <| s_val rfl rfl rfl rfl <| s_nil <| s_cond_f rfl <| s_seq <| s_region <| s_val rfl rfl rfl rfl <| s_val rfl rfl rfl rfl <| s_nil <| s_cond_t rfl ?_
   refine s_mid (ι := Hp × List UInt8) (fun j => ⟨[(0, .ptr w 0 0), (3, .lptr 3 0)], [(3, (Ty.mk 2 0 s b az).agg.cells)], j.1⟩) (fun j => BA j.1 w (bs ++ j.2) ∧ j.2.length ≤ 8 + 10 * az.length + Ty.inkL az) ?_ ?_
   ·skip
    refine s_seq <| s_region <| s_val rfl rfl rfl rfl <| s_val rfl rfl rfl rfl ?_
    refine s_val rfl (o_lenV rfl rfl (args1 rfl rfl) rfl rowD_kind rowD_len) rfl rfl ?_
    refine s_val rfl rfl rfl rfl <| s_nil ?_
    by_cases h1 : az.length = 1
    ·refine s_cond_t (congrArg (fun t => some (vbool t)) (show (((az.length : Nat) : Int) == 1) = true by rw [h1]; rfl)) ?_
     obtain ⟨a, rfl⟩ : ∃ a, az = [a] := by
      match az, h1 with
      | [a], _ => exact ⟨a, rfl⟩
     have hsa : SayOk a := hsay a (by simp)
     simp only [Ty.inkL, List.length_cons, List.length_nil] at hl
     refine s_drawn { ord := [0, 1, 2, 3, 4, 5, 6, 7, 8, 9, 10, 11, 12, 13, 14, 15, 16, 17, 18, 19], wr := 524288, cl := [0, 0, 2, 6, 14, 0, 32, 96, 224, 480, 992, 2016, 4064, 8160, 16352, 32736, 65504, 131040, 262112, 524287] } (by kernel_rfl) ?_
     iterate 3 refine d_val rfl rfl rfl rfl rfl ?_
     refine d_val rfl rfl (o_indexV rfl rfl rfl (rowD_at (b := b) (az := [a]) (i := 0) (Nat.succ_pos _))) rfl rfl ?_
     refine d_val rfl rfl (o_loadV rfl rfl head_load) rfl rfl ?_
     refine d_val rfl rfl rfl rfl rfl <| d_val rfl rfl rfl rfl rfl ?_
     refine d_val rfl rfl (o_indexV rfl rfl rfl (rowD_at (b := b) (az := [a]) (i := 0) (Nat.succ_pos _))) rfl rfl ?_
     refine d_val rfl rfl rfl rfl rfl ?_
     refine d_val rfl rfl (o_loadV rfl rfl head_kind) rfl rfl ?_
     refine d_val rfl rfl rfl rfl rfl <| d_val rfl rfl rfl rfl rfl ?_
     generalize (a.kind == 3) = b3
     cases b3
     ·skip
      refine d_val rfl rfl rfl rfl rfl <| d_val rfl rfl rfl rfl rfl ?_
      refine d_val rfl rfl (o_indexV rfl rfl rfl (rowD_at (b := b) (az := [a]) (i := 0) (Nat.succ_pos _))) rfl rfl ?_
      refine d_val rfl rfl rfl rfl rfl ?_
      refine d_val rfl rfl (o_loadV rfl rfl head_kind) rfl rfl ?_
      refine d_val rfl rfl rfl rfl rfl <| d_val rfl rfl rfl rfl rfl ?_
      refine d_ret1 (sayIn_ret hsa B (by omega) _) rfl rfl rfl rfl rfl ?_
      rintro _ h2 ⟨m2, n2, l2, B2⟩
      refine d_nil ⟨trivial, trivial, ?_⟩
      exact ⟨(h2, m2), ⟨B2, by simp only [Ty.inkL, List.length_cons, List.length_nil]; omega⟩, ⟨rfl, rfl, trivial⟩, ⟨rfl, trivial⟩, rfl⟩
     ·skip
      refine d_no rfl rfl rfl rfl ?_
      refine d_no rfl rfl rfl rfl ?_
      refine d_no rfl rfl rfl rfl ?_
      refine d_no rfl rfl rfl rfl ?_
      refine d_no rfl rfl rfl rfl ?_
      refine d_no rfl rfl rfl rfl ?_
      refine d_val rfl rfl rfl rfl rfl ?_
      refine d_ret1 (sayIn_ret hsa B (by omega) true) rfl rfl rfl rfl rfl ?_
      rintro _ h2 ⟨m2, n2, l2, B2⟩
      refine d_nil ⟨trivial, trivial, ?_⟩
      exact ⟨(h2, m2), ⟨B2, by simp only [Ty.inkL, List.length_cons, List.length_nil]; omega⟩, ⟨rfl, rfl, trivial⟩, ⟨rfl, trivial⟩, rfl⟩
    ·refine s_cond_f (congrArg (fun t => some (vbool t)) (show (((az.length : Nat) : Int) == 1) = false from beq_false_of_ne (by omega))) ?_
     refine s_seq <| s_region <| s_val rfl rfl rfl rfl <| s_val rfl rfl rfl rfl ?_
     refine s_val rfl (o_lenV rfl rfl (args1 rfl rfl) rfl rowD_kind rowD_len) rfl rfl ?_
     refine s_val rfl rfl rfl rfl <| s_nil ?_
     refine s_if rfl (fun ht => ?_) (fun ht => ?_)
     ·skip
      refine s_seq <| s_region <| s_val rfl rfl rfl rfl ?_
      refine s_ret1 (byte_ret B (by omega) 40) rfl rfl rfl rfl ?_
      rintro _ h2 B2
      refine s_nil <| s_seq <| s_seq <| s_region <| s_val rfl rfl rfl rfl <| s_val rfl rfl rfl rfl ?_
      refine s_val rfl (o_lenV rfl rfl (args1 rfl rfl) rfl rowD_kind rowD_len) rfl rfl ?_
      refine s_val rfl rfl rfl rfl <| s_nil <| s_block ?_
      refine s_rounds (ι := SPx) (fun j => ⟨[(0, .ptr w 0 0), (3, .lptr 3 0), (63, .d (rowD (b && az.isEmpty) az.length (Ty.cellsL az))), (64, vint az.length), (65, vint j.i)], [(3, (Ty.mk 2 0 s b az).agg.cells)], j.h⟩)
       (fun j => j.i ≤ az.length ∧ BA j.h w (bs ++ j.m) ∧ j.m.length ≤ 1 + 10 * j.i + Ty.inkL (az.take j.i)) (fun j => az.length - j.i) ?_ ⟨0, h2, [40]⟩ ⟨Nat.zero_le _, B2, by simp⟩ ⟨⟨rfl, rfl, rfl, rfl, rfl, trivial⟩, ⟨rfl, trivial⟩, rfl⟩
      rintro ⟨i, h3, m⟩ ⟨hi, B3, l3⟩
      simp only at hi B3 l3
      refine s_seq <| s_region <| s_val rfl rfl rfl rfl <| s_nil <| s_seq ?_
      by_cases hil : i < az.length
      ·refine s_cond_t (congrArg (fun t => some (vbool t)) (decide_eq_true (show (i : Int) < (az.length : Nat) from Int.ofNat_lt.2 hil))) ?_
       obtain ⟨k1, k2⟩ := take_ink hil
       have hmem := getD_mem' hil
       have hdh := drop_head hil
       generalize az.getD i default = a at k1 k2 hmem hdh
       have hat := rowD_at (b := b) hil
       rw [hdh] at hat
       refine s_skip <| s_seq <| s_block <| s_seq <| s_region <| s_val rfl rfl rfl rfl ?_
       refine s_val rfl (o_indexV rfl rfl rfl hat) rfl rfl ?_
       refine s_val rfl (o_loadV rfl rfl head_load) rfl rfl ?_
       refine s_newL rfl rfl rfl rfl rfl ?_
       refine s_val rfl rfl rfl rfl ?_
       refine s_setL rfl (o_storeL rfl rfl rfl rfl (agg_len a) rfl (Ty.cells_isCell a) rfl (by rw [agg_len]; exact Nat.le_refl _)) rfl ?_
       refine s_nil <| s_seq <| s_region <| s_val rfl rfl rfl rfl <| s_val rfl rfl rfl rfl ?_
       refine s_ret1 (between_ret B3 (by rw [List.length_append]; omega) (s := [44, 32]) (by simp) (by decide) i) rfl rfl rfl rfl ?_
       rintro _ h4 B4
       have l4 : (if i > 0 then [44, 32] else [] : List UInt8).length ≤ 2 := by split <;> simp
       generalize (if i > 0 then [44, 32] else [] : List UInt8) = sep at B4 l4
       refine s_nil <| s_region <| s_val rfl rfl rfl rfl ?_
       refine s_val rfl (o_loadL rfl rfl rfl rfl (by rw [agg_put a rfl]; exact agg_take a) (agg_zero a)) rfl rfl ?_
       refine s_ret1 (hsay a hmem B4 (by simp only [List.length_append]; omega)) rfl rfl rfl rfl ?_
       rintro _ h5 ⟨m5, n5, l5, B5⟩
       refine s_nil <| s_region ?_
       refine s_val rfl (o_eq rfl (wrap_succ (n := i) (by have := hlen; omega))) rfl rfl ?_
       refine s_val rfl rfl rfl rfl <| s_nil ?_
       refine ⟨⟨i + 1, h5, m ++ sep ++ m5⟩, ⟨hil, ?_, ?_⟩, by simp only; omega, ⟨rfl, rfl, rfl, rfl, rfl, trivial⟩, ⟨rfl, trivial⟩, rfl⟩
       ·rw [← List.append_assoc, ← List.append_assoc]; exact B5
       ·simp only [List.length_append]; rw [k1]; omega
      ·refine s_cond_f (congrArg (fun t => some (vbool t)) (decide_eq_false (show ¬ (i : Int) < (az.length : Nat) from fun h => hil (Int.ofNat_lt.1 h)))) ?_
       have hie : i = az.length := by omega
       rw [hie, List.take_length] at l3
       refine s_exit ?_
       refine s_region <| s_val rfl rfl rfl rfl ?_
       refine s_ret1 (byte_ret B3 (by rw [List.length_append]; omega) 41) rfl rfl rfl rfl ?_
       rintro _ h6 B6
       refine s_nil ?_
       exact ⟨(h6, m ++ [41]), ⟨by rw [← List.append_assoc]; exact B6, by simp only [List.length_append, List.length_cons, List.length_nil]; omega⟩, ⟨rfl, rfl, trivial⟩, ⟨rfl, trivial⟩, rfl⟩
     refine s_skip ?_
     exact ⟨(h, []), ⟨by rw [List.append_nil]; exact B, Nat.zero_le _⟩, ⟨rfl, rfl, trivial⟩, ⟨rfl, trivial⟩, rfl⟩
   rintro ⟨h7, m7⟩ ⟨B7, l7⟩
   simp only at B7 l7
   refine s_seq <| s_region ?_
   iterate 3 refine s_val rfl rfl rfl rfl ?_
   refine s_val rfl (o_lenV rfl rfl (args1 rfl rfl) rfl rowD_kind rowD_len) rfl rfl ?_
   refine s_ret1 (between_ret B7 (by rw [List.length_append]; omega) (s := [32]) (by simp) (by decide) az.length) rfl rfl rfl rfl ?_
   rintro _ h8 B8
   have l8 : (if az.length > 0 then [32] else [] : List UInt8).length ≤ 1 := by split <;> simp
   generalize (if az.length > 0 then [32] else [] : List UInt8) = sep at B8 l8
   refine s_nil <| s_region ?_
   iterate 3 refine s_val rfl rfl rfl rfl ?_
   refine s_ret1 (str_ret B8 (by simp only [List.length_append]; omega) hs0 (by omega)) rfl rfl rfl rfl ?_
   rintro _ h9 B9
   refine s_nil ?_
   refine ⟨.inl rfl, _, rfl, m7 ++ sep ++ s, by simp [hs0], by simp only [List.length_append]; omega, ?_⟩
   rw [← List.append_assoc, ← List.append_assoc]; exact B9
  | @pair az hk =>
   refine body (env := [(0, .ptr w 0 0), (1, (Ty.mk 3 0 [] b az).agg)]) (rs := []) Tryz.func75 rfl rfl Tryz.ntmps75 rfl rfl ?_
   refine s_seq <| s_region ?_
   refine s_newL rfl (o_boxL rfl rfl rfl rfl rfl rfl (Ty.cells_isCell _) rfl) rfl rfl rfl ?_
   refine s_nil <| s_seq <| s_region <| s_val rfl rfl rfl rfl <| s_val rfl rfl rfl rfl <| s_nil <| s_block <| s_seq <| s_region <| s_val rfl rfl rfl rfl <| s_val rfl rfl rfl rfl <| s_nil <| s_cond_f rfl <| s_seq <| s_region <| s_val rfl rfl rfl rfl <| s_val rfl rfl rfl rfl <| s_nil <| s_cond_f rfl <| s_seq <| s_region <| s_val rfl rfl rfl rfl <| s_val rfl rfl rfl rfl <| s_nil <| s_cond_t rfl <| s_seq <| s_region <| s_val rfl rfl rfl rfl <| s_val rfl rfl rfl rfl ?_
   refine s_val rfl (o_lenV rfl rfl (args1 rfl rfl) rfl rowD_kind rowD_len) rfl rfl ?_
   refine s_val rfl rfl rfl rfl <| s_nil <| s_block ?_
   refine s_rounds (ι := SPx) (fun j => ⟨[(0, .ptr w 0 0), (91, .d (rowD (b && az.isEmpty) az.length (Ty.cellsL az))), (92, vint az.length), (93, vint j.i)], [], j.h⟩)
    (fun j => j.i ≤ az.length ∧ BA j.h w (bs ++ j.m) ∧ (0 < j.i → j.m ≠ []) ∧ j.m.length ≤ 10 * j.i + Ty.inkL (az.take j.i)) (fun j => az.length - j.i) ?_ ⟨0, h, []⟩ ⟨Nat.zero_le _, by rw [List.append_nil]; exact B, fun h => absurd h (Nat.lt_irrefl _), by simp⟩ ⟨⟨rfl, rfl, rfl, rfl, trivial⟩, trivial, rfl⟩
   rintro ⟨i, h3, m⟩ ⟨hi, B3, n3, l3⟩
   simp only at hi B3 n3 l3
   refine s_seq <| s_region <| s_val rfl rfl rfl rfl <| s_nil <| s_seq ?_
   by_cases hil : i < az.length
   ·refine s_cond_t (congrArg (fun t => some (vbool t)) (decide_eq_true (show (i : Int) < (az.length : Nat) from Int.ofNat_lt.2 hil))) ?_
    obtain ⟨k1, k2⟩ := take_ink hil
    have hmem := getD_mem' hil
    have hdh := drop_head hil
    generalize az.getD i default = a at k1 k2 hmem hdh
    have hat := rowD_at (b := b) hil
    rw [hdh] at hat
    refine s_skip <| s_seq <| s_block <| s_seq <| s_region <| s_val rfl rfl rfl rfl ?_
    refine s_val rfl (o_indexV rfl rfl rfl hat) rfl rfl ?_
    refine s_val rfl (o_loadV rfl rfl head_load) rfl rfl ?_
    refine s_newL rfl rfl rfl rfl rfl ?_
    refine s_val rfl rfl rfl rfl ?_
    refine s_setL rfl (o_storeL rfl rfl rfl rfl (agg_len a) rfl (Ty.cells_isCell a) rfl (by rw [agg_len]; exact Nat.le_refl _)) rfl ?_
    refine s_nil <| s_seq <| s_region <| s_val rfl rfl rfl rfl <| s_val rfl rfl rfl rfl ?_
    refine s_ret1 (between_ret B3 (by rw [List.length_append]; omega) (s := [32, 42, 32]) (by simp) (by decide) i) rfl rfl rfl rfl ?_
    rintro _ h4 B4
    have l4 : (if i > 0 then [32, 42, 32] else [] : List UInt8).length ≤ 3 := by split <;> simp
    generalize (if i > 0 then [32, 42, 32] else [] : List UInt8) = sep at B4 l4
    refine s_nil <| s_region <| s_val rfl rfl rfl rfl ?_
    refine s_val rfl (o_loadL rfl rfl rfl rfl (by rw [agg_put a rfl]; exact agg_take a) (agg_zero a)) rfl rfl ?_
    refine s_val rfl rfl rfl rfl ?_
    refine s_val rfl (o_loadV (v := .d (.int .i64 a.kind)) rfl rfl (by cases a; rfl)) rfl rfl ?_
    refine s_val rfl rfl rfl rfl <| s_val rfl rfl rfl rfl ?_
    generalize (a.kind == 3) = b3
    cases b3
    ·skip
     refine s_val rfl rfl rfl rfl ?_
     refine s_val rfl (o_loadV (v := .d (.int .i64 a.kind)) rfl rfl (by cases a; rfl)) rfl rfl ?_
     refine s_val rfl rfl rfl rfl <| s_val rfl rfl rfl rfl ?_
     refine s_ret1 (sayIn_ret (hsay a hmem) B4 (by simp only [List.length_append]; omega) (a.kind == 4)) rfl rfl rfl rfl ?_
     rintro _ h5 ⟨m5, n5, l5, B5⟩
     refine s_nil <| s_region ?_
     refine s_val rfl (o_eq rfl (wrap_succ (n := i) (by omega))) rfl rfl ?_
     refine s_val rfl rfl rfl rfl <| s_nil ?_
     refine ⟨⟨i + 1, h5, m ++ sep ++ m5⟩, ⟨hil, ?_, fun _ => by simp [n5], ?_⟩, by simp only; omega, ⟨rfl, rfl, rfl, rfl, trivial⟩, trivial, rfl⟩
     ·rw [← List.append_assoc, ← List.append_assoc]; exact B5
     ·simp only [List.length_append]; rw [k1]; omega
    ·skip
     iterate 3 refine s_no rfl rfl rfl ?_
     refine s_val rfl rfl rfl rfl ?_
     refine s_ret1 (sayIn_ret (hsay a hmem) B4 (by simp only [List.length_append]; omega) true) rfl rfl rfl rfl ?_
     rintro _ h5 ⟨m5, n5, l5, B5⟩
     refine s_nil <| s_region ?_
     refine s_val rfl (o_eq rfl (wrap_succ (n := i) (by omega))) rfl rfl ?_
     refine s_val rfl rfl rfl rfl <| s_nil ?_
     refine ⟨⟨i + 1, h5, m ++ sep ++ m5⟩, ⟨hil, ?_, fun _ => by simp [n5], ?_⟩, by simp only; omega, ⟨rfl, rfl, rfl, rfl, trivial⟩, trivial, rfl⟩
     ·rw [← List.append_assoc, ← List.append_assoc]; exact B5
     ·simp only [List.length_append]; rw [k1]; omega
   ·refine s_cond_f (congrArg (fun t => some (vbool t)) (decide_eq_false (show ¬ (i : Int) < (az.length : Nat) from fun h => hil (Int.ofNat_lt.1 h)))) ?_
    have hie : i = az.length := by omega
    rw [hie, List.take_length] at l3
    refine s_exit ?_
    exact ⟨.inl rfl, _, rfl, m, n3 (by omega), by omega, B3⟩
  | @arrow az hk =>
   obtain ⟨x, y, rfl⟩ : ∃ x y, az = [x, y] := by
    match az, hk with
    | [x, y], _ => exact ⟨x, y, rfl⟩
   have hsx : SayOk x := hsay x (by simp)
   have hsy : SayOk y := hsay y (by simp)
   simp only [Ty.inkL, List.length_cons, List.length_nil] at hl ⊢
   refine body (env := [(0, .ptr w 0 0), (1, (Ty.mk 4 0 [] b [x, y]).agg)]) (rs := []) Tryz.func75 rfl rfl Tryz.ntmps75 rfl rfl ?_
   refine s_seq <| s_region ?_
   refine s_newL rfl (o_boxL rfl rfl rfl rfl rfl rfl (Ty.cells_isCell _) rfl) rfl rfl rfl ?_
   refine s_nil <| s_seq <| s_region <| s_val rfl rfl rfl rfl <| s_val rfl rfl rfl rfl <| s_nil <| s_block <| s_seq <| s_region <| s_val rfl rfl rfl rfl <| s_val rfl rfl rfl rfl <| s_nil <| s_cond_f rfl <| s_seq <| s_region <| s_val rfl rfl rfl rfl <| s_val rfl rfl rfl rfl <| s_nil <| s_cond_f rfl <| s_seq <| s_region <| s_val rfl rfl rfl rfl <| s_val rfl rfl rfl rfl <| s_nil <| s_cond_f rfl <| s_seq <| s_region <| s_val rfl rfl rfl rfl <| s_val rfl rfl rfl rfl <| s_nil <| s_cond_t rfl <| s_seq ?_
   refine s_drawn { ord := [0, 1, 2, 3, 4, 5, 6, 7, 8, 9, 10, 11], wr := 2048, cl := [0, 0, 2, 6, 14, 0, 32, 96, 224, 480, 992, 2047] } (by kernel_rfl) ?_
   iterate 3 refine d_val rfl rfl rfl rfl rfl ?_
   refine d_val rfl rfl (o_indexV rfl rfl rfl (rowD_at (b := b) (az := [x, y]) (i := 0) (Nat.succ_pos _))) rfl rfl ?_
   refine d_val rfl rfl (o_loadV rfl rfl head_load) rfl rfl ?_
   refine d_val rfl rfl rfl rfl rfl <| d_val rfl rfl rfl rfl rfl ?_
   refine d_val rfl rfl (o_indexV rfl rfl rfl (rowD_at (b := b) (az := [x, y]) (i := 0) (Nat.succ_pos _))) rfl rfl ?_
   refine d_val rfl rfl rfl rfl rfl ?_
   refine d_val rfl rfl (o_loadV rfl rfl head_kind) rfl rfl ?_
   refine d_val rfl rfl rfl rfl rfl ?_
   refine d_ret1 (sayIn_ret hsx B (by omega) (x.kind == 4)) rfl rfl rfl rfl rfl ?_
   rintro _ h2 ⟨m2, n2, l2, B2⟩
   refine d_nil ⟨trivial, trivial, ?_⟩
   refine s_seq <| s_region <| s_val rfl rfl rfl rfl ?_
   refine s_ret1 (str_ret B2 (by rw [List.length_append]; omega) (s := [32, 45, 62, 32]) (by simp) (by decide)) rfl rfl rfl rfl ?_
   rintro _ h3 B3
   refine s_nil <| s_region ?_
   iterate 3 refine s_val rfl rfl rfl rfl ?_
   refine s_val rfl (o_indexV rfl rfl rfl (rowD_at (b := b) (az := [x, y]) (i := 1) (Nat.le_refl _))) rfl rfl ?_
   refine s_val rfl (o_loadV rfl rfl head_load) rfl rfl ?_
   refine s_ret1 (hsy B3 (by simp only [List.length_append, List.length_cons, List.length_nil]; omega)) rfl rfl rfl rfl ?_
   rintro _ h4 ⟨m4, n4, l4, B4⟩
   refine s_nil ?_
   refine ⟨.inl rfl, _, rfl, m2 ++ [32, 45, 62, 32] ++ m4, by simp, by simp only [List.length_append, List.length_cons, List.length_nil]; omega, ?_⟩
   rw [← List.append_assoc, ← List.append_assoc]; exact B4
/-- Show of a right type: a text, the same one always. -/
theorem show_any {t : Ty} (hr : t.right kindOf = true) (hn : Nums t) (hl : t.ink ≤ 2 ^ 26) : ∃ s : List UInt8, ∀ h, Ret ctx Or Xo 34 [t.agg] h (fun v h' => v = .tuple [.d (.str s), vint 0] ∧ h' = h) := by
 have hs : t.Short := fun q hq => Nat.le_trans (hn.len q hq) (by decide)
 have hsz := (right_pos hr).2.1
 have h0 : Ret ctx Or Xo 34 [t.agg] .empty (fun v _ => ∃ s : List UInt8, v = .tuple [.d (.str s), vint 0]) := by
  refine body (env := [(0, t.agg)]) (rs := [.tmp 2, .tmp 3]) Tryz.func34 rfl rfl Tryz.ntmps34 rfl rfl ?_
  refine s_seq <| s_region ?_
  refine s_newL rfl (o_boxL rfl rfl rfl rfl (agg_len t) rfl (Ty.cells_isCell t) rfl) rfl rfl rfl ?_
  refine s_val rfl rfl rfl rfl <| s_val rfl rfl rfl rfl <| s_nil <| s_seq <| s_seq <| s_region ?_
  refine s_val rfl (o_loadL rfl rfl rfl rfl (agg_take t) (agg_zero t)) rfl rfl ?_
  refine s_ret1 (right_ret kindOk hs (by omega)) rfl rfl rfl rfl ?_
  rintro _ h1 ⟨rfl, e1⟩
  rw [hr]
  refine s_val rfl rfl rfl rfl <| s_nil <| s_cond_f rfl <| s_skip <| s_seq <| s_region ?_
  refine s_newVar rfl rfl rfl rfl ?_
  refine s_nil <| s_seq ?_
  have B0 : BA (h1.newV [.d .nilptr, .d .nilslice] 138) h1.next [] := .mk (Nat.lt_succ_self _) (if_pos rfl) .nil (by simp [AV.own]) (.inr ⟨rfl, if_pos rfl⟩) (fun id h => by simp [AV.own] at h)
  refine s_region ?_
  refine s_val rfl (o_loadL rfl rfl rfl rfl (agg_take t) (agg_zero t)) rfl rfl ?_
  refine s_ret1 (say_ret t hn B0 (by simpa using hl)) rfl rfl rfl rfl ?_
  rintro _ h3 ⟨m, n3, l3, B3⟩
  rw [List.nil_append] at B3
  refine s_nil <| s_seq <| s_region ?_
  refine s_ret1 (string_ret B3 n3 (by omega)) rfl rfl rfl rfl ?_
  rintro _ h4 rfl
  refine s_val rfl rfl rfl rfl <| s_val rfl rfl rfl rfl <| s_nil <| s_ret ?_
  exact ⟨.inr rfl, _, rfl, m, rfl⟩
 obtain ⟨v, h', hb, s, rfl⟩ := h0
 exact ⟨s, fun h => ⟨_, _, .closed hb rfl rfl, rfl, rfl⟩⟩
end Go.Dv.Us
/- Weight, New, at. -/
namespace Go.Dv.Us
open Go.Dv.K Go.Proofs
mutual
def Ty.weigh : Ty → Nat
  | .mk _ _ s _ az => 1 + s.length / 16 + Ty.weighL az
def Ty.weighL : List Ty → Nat
  | [] => 0
  | t :: r => Ty.weigh t + Ty.weighL r
end
theorem Ty.weighL_append : ∀ l m : List Ty, Ty.weighL (l ++ m) = Ty.weighL l + Ty.weighL m
  | [], m => by simp [Ty.weighL]
  | t :: l, m => by simp only [List.cons_append, Ty.weighL, Ty.weighL_append l m]; omega
theorem Ty.weigh_all : ∀ t : Ty, t.size ≤ t.weigh ∧ t.ink + 10 ≤ 50 * t.weigh ∧ ∀ q ∈ t.pre, q.name.length ≤ 16 * t.weigh := by
  intro t
  induction t using Ty.ind with
  | h k n s b az ih =>
    have key : ∀ l : List Ty, (∀ a ∈ l, a.size ≤ a.weigh ∧ a.ink + 10 ≤ 50 * a.weigh ∧ ∀ q ∈ a.pre, q.name.length ≤ 16 * a.weigh) → Ty.sizeL l ≤ Ty.weighL l ∧ Ty.inkL l + 10 * l.length ≤ 50 * Ty.weighL l ∧ ∀ q ∈ Ty.preL l, q.name.length ≤ 16 * Ty.weighL l := by
      intro l
      induction l with
      | nil => intro _; exact ⟨Nat.le_refl _, by simp [Ty.inkL, Ty.weighL], fun q hq => by simp [Ty.preL] at hq⟩
      | cons a l ih2 =>
        intro h
        obtain ⟨h1, h2, h3⟩ := h a (by simp)
        obtain ⟨h4, h5, h6⟩ := ih2 fun x hx => h x (by simp [hx])
        simp only [Ty.sizeL, Ty.weighL, Ty.inkL, Ty.preL, List.length_cons, List.mem_append]
        refine ⟨by omega, by omega, fun q hq => ?_⟩
        rcases hq with hq | hq
        · have := h3 q hq; omega
        · have := h6 q hq; omega
    obtain ⟨h1, h2, h3⟩ := key az ih
    have hdiv := Nat.div_add_mod s.length 16
    have hmod := Nat.mod_lt s.length (show 16 > 0 by decide)
    simp only [Ty.size, Ty.weigh, Ty.ink, Ty.pre, List.mem_cons]
    refine ⟨by omega, by omega, fun q hq => ?_⟩
    rcases hq with rfl | hq
    · show s.length ≤ _; omega
    · have := h3 q hq; omega
theorem take_weigh {az : List Ty} {i : Nat} (h : i < az.length) : Ty.weighL (az.take (i + 1)) = Ty.weighL (az.take i) + (az.getD i default).weigh := by
  have h1 : az.take (i + 1) = az.take i ++ [az.getD i default] := by
    rw [List.take_add_one]; simp [List.getD_eq_getElem?_getD, h]
  rw [h1, Ty.weighL_append]; simp [Ty.weighL]
/-- What Weight answers: the weight, where it is not more than most. -/
def Weighs (t : Ty) (most : Nat) (r : Nat) : Prop := r ≤ most + 2 ^ 27 ∧ (r ≤ most → t.weigh = r)
theorem weight_ret : ∀ (t : Ty), (∀ q ∈ t.pre, q.name.length ≤ 2 ^ 30 ∧ q.args.length ≤ 2 ^ 30) → ∀ {most : Nat}, most ≤ 2 ^ 20 → ∀ {h : Hp}, Ret ctx Or Xo 24 [t.agg, vint most] h (fun v h' => (∃ r : Nat, v = vint r ∧ Weighs t most r) ∧ h' = h) := by
  intro t
  induction t using Ty.ind with
  | h k n s b az ih =>
    intro hall most hmost h
    obtain ⟨hs, hal⟩ := hall (.mk k n s b az) (by simp [Ty.pre])
    have hs : s.length ≤ 2 ^ 30 := hs
    have hal : az.length ≤ 2 ^ 30 := hal
    refine body (env := [(0, (Ty.mk k n s b az).agg), (1, vint most)]) (rs := [.tmp 4]) Tryz.func24 rfl rfl Tryz.ntmps24 rfl rfl ?_
    refine s_seq <| s_region ?_
    refine s_newL rfl (o_boxL rfl rfl rfl rfl rfl rfl (Ty.cells_isCell _) rfl) rfl rfl rfl ?_
    refine s_val rfl rfl rfl rfl <| s_nil <| s_seq <| s_region ?_
    iterate 3 refine s_val rfl rfl rfl rfl ?_
    refine s_val rfl (o_eq rfl (show vint (IntKind.i64.wrap (((s.length : Nat) : Int).tdiv 16)) = vint ((s.length / 16 : Nat) : Int) by rw [show ((s.length : Nat) : Int).tdiv 16 = ((s.length / 16 : Nat) : Int) from rfl, wrap_id (by omega) (by omega)])) rfl rfl ?_
    refine s_val rfl (o_eq rfl (addNat (a := 1) (b := s.length / 16) (by omega))) rfl rfl ?_
    refine s_val rfl rfl rfl rfl <| s_nil <| s_seq <| s_seq <| s_region <| s_val rfl rfl rfl rfl <| s_nil <| s_block ?_
    refine s_rounds (ι := Nat × Nat) (fun j => ⟨[(1, vint most), (2, .lptr 2 0), (5, vint j.2), (6, vint j.1)], [(2, (Ty.mk k n s b az).agg.cells)], h⟩)
      (fun j => j.1 ≤ az.length ∧ j.2 ≤ most + 2 ^ 27 ∧ (j.2 ≤ most → j.2 = 1 + s.length / 16 + Ty.weighL (az.take j.1))) (fun j => az.length - j.1) ?_ (0, 1 + s.length / 16) ⟨Nat.zero_le _, by simp only; omega, fun _ => by simp [Ty.weighL]⟩ ⟨⟨rfl, rfl, rfl, rfl, trivial⟩, ⟨rfl, trivial⟩, rfl⟩
    rintro ⟨i, m⟩ ⟨hi, hm, hw⟩
    simp only at hi hm hw
    refine s_seq <| s_seq <| s_region ?_
    iterate 3 refine s_val rfl rfl rfl rfl ?_
    refine s_val rfl (o_lenV rfl rfl (args1 rfl rfl) rfl rowD_kind rowD_len) rfl rfl ?_
    refine s_val rfl rfl rfl rfl <| s_val rfl rfl rfl rfl ?_
    by_cases hil : i < az.length
    · rw [show decide ((i : Int) < (az.length : Nat)) = true from decide_eq_true (Int.ofNat_lt.2 hil)]
      iterate 4 refine s_val rfl rfl rfl rfl ?_
      refine s_nil ?_
      by_cases hle : m ≤ most
      · refine s_cond_t (congrArg (fun t => some (vbool t)) (decide_eq_true (show ((m : Nat) : Int) ≤ (most : Nat) from Int.ofNat_le.2 hle))) ?_
        have hmem := getD_mem' hil
        have hdh := drop_head hil
        have htw := take_weigh hil
        generalize az.getD i default = a at hmem hdh htw
        have hat := rowD_at (b := b) hil
        rw [hdh] at hat
        refine s_skip <| s_seq <| s_block <| s_region ?_
        iterate 4 refine s_val rfl rfl rfl rfl ?_
        refine s_val rfl (o_indexV rfl rfl rfl hat) rfl rfl ?_
        refine s_val rfl (o_loadV rfl rfl head_load) rfl rfl ?_
        refine s_val rfl rfl rfl rfl <| s_val rfl rfl rfl rfl ?_
        refine s_val rfl (o_eq rfl (show vint (IntKind.i64.wrap (((most : Nat) : Int) - (m : Nat))) = vint ((most - m : Nat) : Int) by rw [wrap_id (by omega) (by omega)]; congr 1; omega)) rfl rfl ?_
        refine s_ret1 (ih a hmem (fun q hq => hall q (by simp only [Ty.pre, List.mem_cons]; exact .inr (mem_preL.2 ⟨a, hmem, hq⟩))) (most := most - m) (by omega)) rfl rfl rfl rfl ?_
        rintro _ h2 ⟨⟨r, rfl, hr1, hr2⟩, he⟩
        subst he
        refine s_val rfl (o_eq rfl (addNat (a := m) (b := r) (by omega))) rfl rfl ?_
        refine s_val rfl rfl rfl rfl <| s_nil <| s_region <| s_val rfl rfl rfl rfl ?_
        refine s_val rfl (o_eq rfl (wrap_succ (n := i) (by omega))) rfl rfl ?_
        refine s_val rfl rfl rfl rfl <| s_nil ?_
        refine ⟨(i + 1, m + r), ⟨hil, by simp only; omega, fun h3 => ?_⟩, by simp only; omega, ⟨rfl, rfl, rfl, rfl, trivial⟩, ⟨rfl, trivial⟩, rfl⟩
        simp only at h3 ⊢
        have h4 := hw hle
        have h5 := hr2 (by omega)
        rw [htw, ← h5] at *
        omega
      · refine s_cond_f (congrArg (fun t => some (vbool t)) (decide_eq_false (show ¬ ((m : Nat) : Int) ≤ (most : Nat) from fun h => hle (Int.ofNat_le.1 h)))) ?_
        refine s_exit ?_
        refine s_seq <| s_region <| s_val rfl rfl rfl rfl <| s_val rfl rfl rfl rfl <| s_nil <| s_ret ?_
        refine ⟨.inr rfl, _, rfl, ⟨m, rfl, by omega, fun h3 => ?_⟩, rfl⟩
        first
        | exact absurd h3 hle
        | (have hie : i = az.length := by omega
           rw [hie, List.take_length] at hw
           simp only [Ty.weigh]; exact (hw h3).symm)
    · rw [show decide ((i : Int) < (az.length : Nat)) = false from decide_eq_false (fun h => hil (Int.ofNat_lt.1 h))]
      iterate 3 refine s_no rfl rfl rfl ?_
      refine s_val rfl rfl rfl rfl <| s_nil <| s_cond_f rfl ?_
      refine s_exit ?_
      refine s_seq <| s_region <| s_val rfl rfl rfl rfl <| s_val rfl rfl rfl rfl <| s_nil <| s_ret ?_
      refine ⟨.inr rfl, _, rfl, ⟨m, rfl, by omega, fun h3 => ?_⟩, rfl⟩
      first
      | exact absurd h3 hle
      | (have hie : i = az.length := by omega
         rw [hie, List.take_length] at hw
         simp only [Ty.weigh]; exact (hw h3).symm)
theorem new_ret {h : Hp} : Ret ctx Or Xo 27 [] h (fun v h' => v = .ptr h.next 0 0 ∧ StoreAt h' h.next store0 ⟨.d .nilslice, .d .nilslice, .d .nilslice, .d .nilslice⟩ ∧ Ext h h' ∧ h'.next = h.next + 1) := by
  refine body (env := []) (rs := [.tmp 0]) Tryz.func27 rfl rfl Tryz.ntmps27 rfl rfl ?_
  refine s_seq <| s_region <| s_val rfl rfl rfl rfl <| s_nil <| s_seq <| s_region <| s_val rfl rfl rfl rfl ?_
  refine s_newVar rfl rfl rfl rfl ?_
  refine s_val rfl rfl rfl rfl <| s_nil <| s_ret ?_
  refine ⟨.inr rfl, _, rfl, rfl, ⟨⟨Nat.lt_succ_self _, if_pos rfl, .nil, .nil, .nil, .nil, ?_, ?_, ?_, ?_, ?_, ?_, ?_, ?_, ?_, ?_⟩, rfl, rfl, rfl⟩, Ext.newV .., rfl⟩ <;> simp [AV.own]
/-- A node's cells. -/
def nodeA (k fr to num : Int) (nm : List UInt8) (kids : DV) : List DV := [.int .i64 k, .int .i64 fr, .int .i64 to, .int .i64 num, .str nm, kids]
theorem at_ret {c k fr to num : Int} {nm : List UInt8} {kids : DV} (hk : kids = .nilslice ∨ ∃ cs n, kids = .imm cs n) {h : Hp} : Ret ctx Or Xo 51 [vint c, .d (.agg (nodeA k fr to num nm kids))] h (fun v h' => v = .d (.agg [.int .i64 c, .int .i64 fr, .int .i64 to]) ∧ h' = h) := by
  have hc : (AV.cells (.d (.agg (nodeA k fr to num nm kids)))).all AV.isCell = true := by
    rcases hk with rfl | ⟨cs, n, rfl⟩ <;> rfl
  refine body (env := [(0, vint c), (1, .d (.agg (nodeA k fr to num nm kids)))]) (rs := [.cell 4 35]) Tryz.func51 rfl rfl Tryz.ntmps51 rfl rfl ?_
  refine s_seq <| s_region ?_
  refine s_newL rfl (o_boxL rfl rfl rfl rfl rfl rfl hc rfl) rfl rfl rfl ?_
  refine s_newL rfl rfl rfl rfl rfl ?_
  refine s_nil <| s_seq <| s_region ?_
  iterate 6 refine s_val rfl rfl rfl rfl ?_
  refine s_setL rfl (o_storeL rfl rfl rfl rfl rfl rfl rfl rfl (Nat.le_refl 3)) rfl ?_
  refine s_nil <| s_ret ?_
  exact ⟨.inr rfl, _, rfl, rfl, rfl⟩
end Go.Dv.Us
/- Calls of the law whose arguments are told: what they answer. Written by program. -/
namespace Go.Dv.Us
open Go.Dv.K Go.Proofs
def srcT : List UInt8 := [108, 101, 116, 32, 121, 32, 61, 32, 102, 32, 120]
def nodesD : DV := .imm [.int .i64 4, .int .i64 4, .int .i64 5, .int .i64 0, .str [121], .nilslice, .int .i64 5, .int .i64 8, .int .i64 9, .int .i64 0, .str [102], .nilslice, .int .i64 5, .int .i64 10, .int .i64 11, .int .i64 0, .str [120], .nilslice, .int .i64 11, .int .i64 8, .int .i64 11, .int .i64 0, .str [], .imm [.int .i64 1, .int .i64 2] 2, .int .i64 1, .int .i64 0, .int .i64 11, .int .i64 0, .str [], .imm [.int .i64 0, .int .i64 3] 2] 5
def baseD : DV := .agg [.imm [.str [105, 110, 116], .int .i64 0, .str [98, 111, 111, 108], .int .i64 0, .str [117, 110, 105, 116], .int .i64 0] 3, .nilslice]
/-- A closed call, by the kernel's run; then in any memory. -/
theorem closedRet {f : FuncId} {args : List AV} {v : AV} (h : retIs v (ev (kit (knOf [])) (chk0 ctx) 1000000 (.call f args hp0)) = true) (hv : deepV v = true) (ha : (allD args).isSome = true) (h' : Hp) : Ret ctx Or Xo f args h' (fun w h'' => w = v ∧ h'' = h') := by
 obtain ⟨h0, hb⟩ := ret_of (kit_ok _ (known_all (l := []) (fun x h => by cases h))) h
 exact ⟨_, _, .closed hb hv ha, rfl, rfl⟩
theorem run_base : retIs (.d baseD) (ev (kit (knOf [])) (chk0 ctx) 1000000 (.call 23 [] hp0)) = true := by kernel_rfl
theorem run_right : retIs (.d (.bool true)) (ev (kit (knOf [])) (chk0 ctx) 1000000 (.call 44 [.d baseD] hp0)) = true := by kernel_rfl
theorem run_kf : retIs (vint 1) (ev (kit (knOf [])) (chk0 ctx) 1000000 (.call 45 [.d (.str [102])] hp0)) = true := by kernel_rfl
theorem run_kx : retIs (vint 1) (ev (kit (knOf [])) (chk0 ctx) 1000000 (.call 45 [.d (.str [120])] hp0)) = true := by kernel_rfl
theorem run_ff : retIs (.d .nilptr) (ev (kit (knOf [])) (chk0 ctx) 1000000 (.call 89 [.d .nilptr, .d (.str [102])] hp0)) = true := by kernel_rfl
theorem run_fx : retIs (.d .nilptr) (ev (kit (knOf [])) (chk0 ctx) 1000000 (.call 89 [.d .nilptr, .d (.str [120])] hp0)) = true := by kernel_rfl
theorem run_show : retIs (.tuple [.d (.str [108, 101, 116, 32, 121, 32, 61, 32, 102, 32, 120]), .d (.int .i64 0)]) (ev (kit (knOf [])) (chk0 ctx) 1000000 (.call 35 [.d nodesD] hp0)) = true := by kernel_rfl
theorem run_one : retIs (.tuple [.d nodesD, .d (.agg [.int .i64 0, .int .i64 0, .int .i64 0])]) (ev (kit (knOf [])) (chk0 ctx) 1000000 (.call 22 [.d (.str srcT)] hp0)) = true := by kernel_rfl
theorem base_ret (h : Hp) : Ret ctx Or Xo 23 [] h (fun w h'' => w = .d baseD ∧ h'' = h) := closedRet run_base rfl rfl h
theorem dright_ret (h : Hp) : Ret ctx Or Xo 44 [.d baseD] h (fun w h'' => w = .d (.bool true) ∧ h'' = h) := closedRet run_right rfl rfl h
theorem kf_ret (h : Hp) : Ret ctx Or Xo 45 [.d (.str [102])] h (fun w h'' => w = vint 1 ∧ h'' = h) := closedRet run_kf rfl rfl h
theorem kx_ret (h : Hp) : Ret ctx Or Xo 45 [.d (.str [120])] h (fun w h'' => w = vint 1 ∧ h'' = h) := closedRet run_kx rfl rfl h
theorem ff_ret (h : Hp) : Ret ctx Or Xo 89 [.d .nilptr, .d (.str [102])] h (fun w h'' => w = .d .nilptr ∧ h'' = h) := closedRet run_ff rfl rfl h
theorem fx_ret (h : Hp) : Ret ctx Or Xo 89 [.d .nilptr, .d (.str [120])] h (fun w h'' => w = .d .nilptr ∧ h'' = h) := closedRet run_fx rfl rfl h
theorem pshow_ret (h : Hp) : Ret ctx Or Xo 35 [.d nodesD] h (fun w h'' => w = .tuple [.d (.str [108, 101, 116, 32, 121, 32, 61, 32, 102, 32, 120]), .d (.int .i64 0)] ∧ h'' = h) := closedRet run_show rfl rfl h
theorem one_ret (h : Hp) : Ret ctx Or Xo 22 [.d (.str srcT)] h (fun w h'' => w = .tuple [.d nodesD, .d (.agg [.int .i64 0, .int .i64 0, .int .i64 0])] ∧ h'' = h) := closedRet run_one rfl rfl h
end Go.Dv.Us
