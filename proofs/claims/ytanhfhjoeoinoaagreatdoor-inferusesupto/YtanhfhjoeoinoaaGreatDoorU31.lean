/- A part of the proof of InferUses, second form: for every input of bulk at most 1048576 the call returns true and the arguments read as they did. Its condition: that bulk. -/
import Derived.Test.YtanhfhjoeoinoaaGreatDoorU30
/- build: a type is made in a typer's store. -/
namespace Go.Dv.Us
open Go.Dv.K Go.Proofs
theorem buildL_snoc : ∀ (l : List Ty) (a : Ty) {S : Store} {m : List (Nat × Nat)}, S.buildL m (l ++ [a]) =
  (((S.buildL m l).1.build (S.buildL m l).2.1 a).1, ((S.buildL m l).1.build (S.buildL m l).2.1 a).2.1, (S.buildL m l).2.2 ++ [((S.buildL m l).1.build (S.buildL m l).2.1 a).2.2])
 | [], a, S, m => by simp [Store.buildL]
 | t :: l, a, S, m => by simp only [List.cons_append, Store.buildL, buildL_snoc l a]
theorem buildL_made {K : List UInt8 → Int} : ∀ (l : List Ty), (∀ a ∈ l, a.Fit K) → ∀ {S : Store} {m : List (Nat × Nat)}, Made K S m → S.nodes.length + Ty.sizeL l ≤ 2 ^ 12 →
  Made K (S.buildL m l).1 (S.buildL m l).2.1 ∧ (∀ a ∈ (S.buildL m l).2.2, a < (S.buildL m l).1.nodes.length) ∧ Grew S (S.buildL m l).1 (Ty.sizeL l) ∧ (S.buildL m l).2.2.length = l.length
 | [], _, S, m, hm, _ => ⟨hm, fun a ha => by simp [Store.buildL] at ha, ⟨Nat.le_refl _, Nat.le_add_right _ _, fun _ _ => rfl⟩, rfl⟩
 | t :: l, hf, S, m, hm, hsz => by
  simp only [Ty.sizeL] at hsz ⊢
  obtain ⟨h1, h2, h3⟩ := build_made t (hf t (by simp)) hm (by omega)
  obtain ⟨h4, h5, h6, h7⟩ := buildL_made l (fun a ha => hf a (by simp [ha])) h1 (by have := h3.most; omega)
  simp only [Store.buildL]
  refine ⟨h4, fun x hx => ?_, h3.trans h6, by simp [h7]⟩
  rcases List.mem_cons.1 hx with h8 | h8
  ·subst h8; exact Nat.lt_of_lt_of_le h2 h6.le
  ·exact h5 x h8
theorem _root_.Go.Dv.Fram.more {h h' : Hp} {o o' : List Nat} (a : Fram h h' o o') (mp : Nat) : Fram h h' (mp :: o) (mp :: o') :=
 ⟨a.next, fun id h1 h2 => a.keep id h1 (fun h3 => h2 (by simp [h3])), fun id h1 => by
  rcases List.mem_cons.1 h1 with h2 | h2
  ·exact .inl (by simp [h2])
  ·exact (a.new id h2).imp (fun h3 => by simp [h3]) (fun h3 => h3)⟩
/-- A store and a map of variables. -/
structure BM (f : Nat → AV) (h : Hp) (s mp : Nat) (S : Store) (p : At) (m : List (Nat × Nat)) : Prop where
 hS : StoreAt h s S p
 hm : h.get mp = some (.map (ents f m))
 nm : mp ∉ p.own s
 lm : mp < h.next
section
variable {f : Nat → AV} {h h' : Hp} {s mp : Nat} {S S' : Store} {p p' : At} {m m' : List (Nat × Nat)}
theorem BM.fram (B : BM f h s mp S p m) (hS : StoreAt h' s S' p') (F : Fram h h' (p.own s) (p'.own s)) : BM f h' s mp S' p' m :=
 ⟨hS, (F.keep mp B.lm B.nm).trans B.hm, fun h1 => by
  rcases F.new mp h1 with h2 | h2
  ·exact B.nm h2
  ·have := B.lm; omega, Nat.lt_of_lt_of_le B.lm F.next⟩
theorem BM.put (B : BM f h s mp S p m) (v x : Nat) : BM f (h.set mp (.map (ents f (putN m v x)))) s mp S p (putN m v x) :=
 ⟨B.hS.keep (Nat.le_refl _) fun id h1 => Hp.get_set_ne fun h2 => B.nm (by rw [← h2]; exact h1), Hp.get_set_eq, B.nm, B.lm⟩
theorem Fram.set1 {h : Hp} {id : Nat} {o : List Nat} (ob : Obj) (hm : id ∈ o) : Fram h (h.set id ob) o o := ⟨Nat.le_refl _, fun i _ h2 => Hp.get_set_ne fun h3 => h2 (by rw [h3]; exact hm), fun i h1 => .inl h1⟩
theorem BM.ext (B : BM f h s mp S p m) (e : Ext h h') : BM f h' s mp S p m := ⟨B.hS.ext e, (e.keep _ B.lm).trans B.hm, B.nm, Nat.lt_of_lt_of_le B.lm e.next⟩
end
/-- The typer's first cell leads to the store. -/
structure TS (h : Hp) (t s mp : Nat) (rest : List AV) (p : At) : Prop where
 gt : h.get t = some (.cells (.ptr s 0 0 :: rest) 0)
 nt : t ∉ p.own s
 tm : t ≠ mp
 lt : t < h.next
theorem TS.fram {h h' : Hp} {t s mp : Nat} {rest : List AV} {p p' : At} (T : TS h t s mp rest p) (F : Fram h h' (mp :: p.own s) (mp :: p'.own s)) : TS h' t s mp rest p' :=
 ⟨(F.keep t T.lt (fun h1 => by
  rcases List.mem_cons.1 h1 with h2 | h2
  ·exact T.tm h2
  ·exact T.nt h2)).trans T.gt, fun h1 => by
  rcases F.new t (by simp [h1]) with h2 | h2
  ·rcases List.mem_cons.1 h2 with h3 | h3
   ·exact T.tm h3
   ·exact T.nt h3
  ·have := T.lt; omega, T.tm, Nat.lt_of_lt_of_le T.lt F.next⟩
theorem tarrow_ret {h : Hp} {t s : Nat} {rest : List AV} {S : Store} {p : At} (hS : StoreAt h s S p) (gt : h.get t = some (.cells (.ptr s 0 0 :: rest) 0)) (hsz : S.nodes.length ≤ 2 ^ 20) {a b : Nat} (ha : a < S.nodes.length) (hb : b < S.nodes.length) :
  Ret ctx Or Xo 225 [.ptr t 0 0, vint a, vint b] h (fun v h' => v = vint S.nodes.length ∧ Added h s S p (arrowN a b) h') := by
 refine body (env := [(0, .ptr t 0 0), (1, vint a), (2, vint b)]) (rs := [.tmp 6]) Tryz.func225 rfl rfl Tryz.ntmps225 rfl rfl ?_
 refine s_seq <| s_region <| s_val rfl rfl rfl rfl <| s_nil <| s_seq <| s_region ?_
 iterate 3 refine s_val rfl rfl rfl rfl ?_
 refine s_val rfl (o_load rfl rfl rfl gt rfl rfl) rfl rfl ?_
 refine s_val rfl rfl rfl rfl <| s_val rfl rfl rfl rfl ?_
 refine s_ret1 (arrow_ret hS hsz ha hb) rfl rfl rfl rfl ?_
 rintro _ h1 ⟨rfl, hA⟩
 iterate 5 refine s_val rfl rfl rfl rfl ?_
 refine s_nil <| s_seq <| s_region <| s_val rfl rfl rfl rfl <| s_val rfl rfl rfl rfl <| s_nil <| s_ret ?_
 exact ⟨.inr rfl, _, rfl, rfl, hA⟩
theorem o_makeInts {A : FAnn} {ρ : Operand → Option AV} {L : Loc} {H : Nat → Option Obj} {o : Oper} {x y : Operand} {n : Nat} (hop : o.op = .makeSlice 72 x y) (hx : ρ x = some (vint n)) (hy : ρ y = some (vint n)) (hn : n ≤ 2 ^ 24) : opA ctx A ρ L H o = some (.newCells (nats (List.replicate n 0)) n 1 3) := by
 have ht : ctx.T 72 = some ti72 := rfl
 have he : ctx.T 3 = some ti3 := rfl
 have hr : ∀ n, repeatL [vint (0 : Nat)] n = nats (List.replicate n 0) := fun n => by
  induction n with
  | zero => rfl
  | succ n ih => simp only [repeatL, ih, List.replicate_succ, nats, List.map_cons]; rfl
 unfold opA
 simp only [hop, hx, hy, vint, ht, he, ti72, ti3]
 rw [if_pos ⟨trivial, Int.natCast_nonneg _, by omega, by decide⟩, Int.toNat_natCast, ← hr n]
 rfl
/-- What build answers. -/
def Built (f : Nat → AV) (h : Hp) (s mp : Nat) (p : At) (r : Store × List (Nat × Nat) × Nat) (v : AV) (h' : Hp) : Prop :=
 v = vint (r.2.2 : Nat) ∧ ∃ p', BM f h' s mp r.1 p' r.2.1 ∧ Fram h h' (mp :: p.own s) (mp :: p'.own s)
structure BLx where
 i : Nat
 h : Hp
 p : At
theorem build_ret {t s mp : Nat} {rest : List AV} : ∀ (T : Ty), T.Fit kindOf → T.Short → ∀ {h : Hp} {S : Store} {p : At} {m : List (Nat × Nat)}, BM (fun z : Nat => vint z) h s mp S p m → TS h t s mp rest p → Made kindOf S m → S.nodes.length + T.size ≤ 2 ^ 12 →
  Ret ctx Or Xo 223 [.ptr t 0 0, T.agg, .map mp] h (Built (fun z : Nat => vint z) h s mp p (S.build m T)) := by
 intro T
 induction T using Ty.ind with
 | h k n nm b az ih =>
  intro hfit hshort h S p m B hT hM hsz
  have hge := Ty.sizeL_ge az
  have hsz1 : S.nodes.length + (1 + Ty.sizeL az) ≤ 2 ^ 12 := by simpa [Ty.size] using hsz
  obtain ⟨hf0, hfa⟩ := Ty.fit_mk.1 hfit
  have hcase := fits_cases.1 hf0
  have hnm : nm.length ≤ 2 ^ 30 := hshort (.mk k n nm b az) (by simp [Ty.pre])
  have hsa : ∀ a ∈ az, a.Short := fun a ha q hq => hshort q (by simp only [Ty.pre, List.mem_cons]; exact .inr (mem_preL.2 ⟨a, ha, hq⟩))
  by_cases hk : k = 1
  ·subst hk
   have hn0 : 0 ≤ n := by cases hcase with | var h0 _ => exact h0
   obtain ⟨v, rfl⟩ : ∃ v : Nat, n = v := ⟨n.toNat, by omega⟩
   cases hg : getN m v with
   | some w =>
    have hlk : AV.tuple [((getN m v).map fun z : Nat => vint z).getD (vint (0 : Nat)), vbool (getN m v).isSome] = .tuple [vint (w : Nat), vbool true] := by rw [hg]; rfl
    have hb : S.build m (.mk 1 v nm b az) = (S, m, w) := by simp [Store.build, hg]
    rw [hb]
    refine body (env := [(0, .ptr t 0 0), (1, (Ty.mk 1 v nm b az).agg), (2, .map mp)]) (rs := [.tmp 6]) Tryz.func223 rfl rfl Tryz.ntmps223 rfl rfl ?_
    refine s_seq <| s_region ?_
    refine s_newL rfl (o_boxL rfl rfl rfl rfl rfl rfl (Ty.cells_isCell _) rfl) rfl rfl rfl ?_
    refine s_val rfl rfl rfl rfl <| s_nil <| s_seq <| s_seq <| s_region ?_
    iterate 3 refine s_val rfl rfl rfl rfl ?_
    refine s_nil <| s_cond_t rfl <| s_seq <| s_region ?_
    iterate 3 refine s_val rfl rfl rfl rfl ?_
    refine s_val rfl (o_eq (o_lookupOk (z := vint (0 : Nat)) rfl rfl rfl rfl rfl rfl B.hm rfl) hlk) rfl rfl ?_
    iterate 5 refine s_val rfl rfl rfl rfl ?_
    refine s_nil <| s_seq <| s_seq <| s_region <| s_val rfl rfl rfl rfl <| s_val rfl rfl rfl rfl <| s_nil <| s_cond_f rfl <| s_skip <| s_seq <| s_region <| s_val rfl rfl rfl rfl <| s_val rfl rfl rfl rfl <| s_nil <| s_ret ?_
    exact ⟨.inr rfl, _, rfl, rfl, p, B, .rfl'⟩
   | none =>
    have hlk : AV.tuple [((getN m v).map fun z : Nat => vint z).getD (vint (0 : Nat)), vbool (getN m v).isSome] = .tuple [vint (0 : Nat), vbool false] := by rw [hg]; rfl
    have hb : S.build m (.mk 1 v nm b az) = (S.add varN, putN m v S.nodes.length, S.nodes.length) := by simp [Store.build, hg]
    rw [hb]
    refine body (env := [(0, .ptr t 0 0), (1, (Ty.mk 1 v nm b az).agg), (2, .map mp)]) (rs := [.tmp 6]) Tryz.func223 rfl rfl Tryz.ntmps223 rfl rfl ?_
    refine s_seq <| s_region ?_
    refine s_newL rfl (o_boxL rfl rfl rfl rfl rfl rfl (Ty.cells_isCell _) rfl) rfl rfl rfl ?_
    refine s_val rfl rfl rfl rfl <| s_nil <| s_seq <| s_seq <| s_region ?_
    iterate 3 refine s_val rfl rfl rfl rfl ?_
    refine s_nil <| s_cond_t rfl <| s_seq <| s_region ?_
    iterate 3 refine s_val rfl rfl rfl rfl ?_
    refine s_val rfl (o_eq (o_lookupOk (z := vint (0 : Nat)) rfl rfl rfl rfl rfl rfl B.hm rfl) hlk) rfl rfl ?_
    iterate 5 refine s_val rfl rfl rfl rfl ?_
    refine s_nil <| s_seq <| s_seq <| s_region <| s_val rfl rfl rfl rfl <| s_val rfl rfl rfl rfl <| s_nil <| s_cond_t rfl <| s_seq <| s_region ?_
    iterate 3 refine s_val rfl rfl rfl rfl ?_
    refine s_val rfl (o_load rfl rfl rfl hT.gt rfl rfl) rfl rfl ?_
    refine s_ret1 (var_ret B.hS (by omega)) rfl rfl rfl rfl ?_
    rintro _ h1 ⟨rfl, p1, hS1, F1⟩
    have B1 := B.fram hS1 F1
    refine s_val rfl rfl rfl rfl <| s_nil <| s_region ?_
    iterate 4 refine s_val rfl rfl rfl rfl ?_
    refine s_setH rfl (o_mapUp (f := fun z : Nat => vint z) (v := S.nodes.length) rfl rfl rfl rfl rfl rfl rfl B1.hm rfl) rfl ?_
    refine s_nil <| s_seq <| s_region <| s_val rfl rfl rfl rfl <| s_val rfl rfl rfl rfl <| s_nil <| s_ret ?_
    exact ⟨.inr rfl, _, rfl, rfl, p1, B1.put v S.nodes.length, (F1.more mp).trans (Fram.set1 _ (by simp))⟩
  ·have hmade : ∀ i, i ≤ az.length → Made kindOf (S.buildL m (az.take i)).1 (S.buildL m (az.take i)).2.1 ∧ (∀ a ∈ (S.buildL m (az.take i)).2.2, a < (S.buildL m (az.take i)).1.nodes.length) ∧ Grew S (S.buildL m (az.take i)).1 (Ty.sizeL (az.take i)) ∧ (S.buildL m (az.take i)).2.2.length = i := fun i hi => by
    have h1 : Ty.sizeL az = Ty.sizeL (az.take i) + Ty.sizeL (az.drop i) := by rw [← Ty.sizeL_append, List.take_append_drop]
    obtain ⟨a1, a2, a3, a4⟩ := buildL_made (az.take i) (fun a ha => hfa a (List.mem_of_mem_take ha)) hM (by omega)
    exact ⟨a1, a2, a3, by rw [a4, List.length_take]; omega⟩
   have hb : S.build m (.mk k n nm b az) = ((S.buildL m az).1.add ⟨k.toNat, nm, (S.buildL m az).2.2, false⟩, (S.buildL m az).2.1, (S.buildL m az).1.nodes.length) := by simp [Store.build, hk]
   rw [hb]
   refine body (env := [(0, .ptr t 0 0), (1, (Ty.mk k n nm b az).agg), (2, .map mp)]) (rs := [.tmp 6]) Tryz.func223 rfl rfl Tryz.ntmps223 rfl rfl ?_
   refine s_seq <| s_region ?_
   refine s_newL rfl (o_boxL rfl rfl rfl rfl rfl rfl (Ty.cells_isCell _) rfl) rfl rfl rfl ?_
   refine s_val rfl rfl rfl rfl <| s_nil <| s_seq <| s_seq <| s_region <| s_val rfl rfl rfl rfl <| s_val rfl rfl rfl rfl ?_
   refine s_val rfl (o_eq rfl (congrArg vbool (show (k == 1) = false from beq_false_of_ne hk))) rfl rfl ?_
   refine s_nil <| s_cond_f rfl <| s_skip <| s_seq <| s_region <| s_val rfl rfl rfl rfl <| s_val rfl rfl rfl rfl ?_
   refine s_val rfl (o_lenV rfl rfl (args1 rfl rfl) rfl rowD_kind rowD_len) rfl rfl ?_
   refine s_newCells (cs := nats (List.replicate az.length 0)) (len := az.length) (sz := 1) (e := 3) rfl (o_makeInts rfl rfl rfl (by omega)) rfl rfl ?_
   refine s_val rfl rfl rfl rfl <| s_nil <| s_seq <| s_seq <| s_region <| s_val rfl rfl rfl rfl <| s_val rfl rfl rfl rfl ?_
   refine s_val rfl (o_lenV rfl rfl (args1 rfl rfl) rfl rowD_kind rowD_len) rfl rfl ?_
   refine s_val rfl rfl rfl rfl <| s_nil <| s_block ?_
   have e1 : Ext h (h.newC (nats (List.replicate az.length 0)) 3) := Ext.newC ..
   have F1 : Fram h (h.newC (nats (List.replicate az.length 0)) 3) (mp :: p.own s) (mp :: p.own s) := e1.fram _
   have hown := B.hS.toRows4.olt
   refine s_rounds (ι := BLx) (fun j => ⟨[(0, .ptr t 0 0), (2, .map mp), (4, .lptr 4 0), (9, .msl h.next 0 az.length 0 1), (43, .d (rowD (b && az.isEmpty) az.length (Ty.cellsL az))), (44, vint az.length), (45, vint j.i)], [(4, (Ty.mk k n nm b az).agg.cells)], j.h⟩)
    (fun j => j.i ≤ az.length ∧ BM (fun z : Nat => vint z) j.h s mp (S.buildL m (az.take j.i)).1 j.p (S.buildL m (az.take j.i)).2.1 ∧ TS j.h t s mp rest j.p ∧ Fram h j.h (mp :: p.own s) (mp :: j.p.own s) ∧ h.next + 1 ≤ j.h.next ∧ h.next ∉ j.p.own s ∧
     j.h.get h.next = some (.cells (nats ((S.buildL m (az.take j.i)).2.2 ++ List.replicate (az.length - j.i) 0)) 0)) (fun j => az.length - j.i) ?_ ⟨0, _, p⟩
    ⟨Nat.zero_le _, B.ext e1, hT.fram F1, F1, Nat.le_refl _, fun h1 => Nat.lt_irrefl _ (hown _ h1), by simp only [List.take_zero, Store.buildL, List.nil_append, Nat.sub_zero]; exact if_pos rfl⟩ ⟨⟨rfl, rfl, rfl, rfl, rfl, rfl, rfl, trivial⟩, ⟨rfl, trivial⟩, rfl⟩
   rintro ⟨i, h1, p1⟩ ⟨hi, B1, T1, F2, hn1, na1, g1⟩
   simp only at hi B1 T1 F2 hn1 na1 g1
   obtain ⟨M1, L1, G1, len1⟩ := hmade i hi
   have hmpl := B.lm
   refine s_seq <| s_region <| s_val rfl rfl rfl rfl <| s_nil <| s_seq ?_
   by_cases hil : i < az.length
   ·refine s_cond_t (congrArg (fun t => some (vbool t)) (decide_eq_true (show (i : Int) < (az.length : Nat) from Int.ofNat_lt.2 hil))) ?_
    have hmem := getD_mem' hil
    have hdh := drop_head hil
    have htk : az.take (i + 1) = az.take i ++ [az.getD i default] := by
     rw [List.take_add_one]; simp [List.getD_eq_getElem?_getD, hil]
    have hszl : Ty.sizeL (az.take i) + (az.getD i default).size ≤ Ty.sizeL az := by
     have h3 : Ty.sizeL az = Ty.sizeL (az.take i) + Ty.sizeL (az.drop i) := by rw [← Ty.sizeL_append, List.take_append_drop]
     rw [h3, hdh]; simp [Ty.sizeL]
    generalize az.getD i default = a at hmem hdh htk hszl
    have hat := rowD_at (b := b) hil
    rw [hdh] at hat
    have hsn := buildL_snoc (az.take i) a (S := S) (m := m)
    rw [← htk] at hsn
    refine s_skip <| s_seq <| s_block <| s_seq <| s_region <| s_val rfl rfl rfl rfl ?_
    refine s_val rfl (o_indexV rfl rfl rfl hat) rfl rfl ?_
    refine s_val rfl (o_loadV rfl rfl head_load) rfl rfl ?_
    refine s_newL rfl rfl rfl rfl rfl ?_
    refine s_val rfl rfl rfl rfl ?_
    refine s_setL rfl (o_storeL rfl rfl rfl rfl (agg_len a) rfl (Ty.cells_isCell a) rfl (by rw [agg_len]; exact Nat.le_refl _)) rfl ?_
    refine s_nil <| s_region ?_
    iterate 3 refine s_val rfl rfl rfl rfl ?_
    refine s_val rfl (o_loadL rfl rfl rfl rfl (by rw [agg_put a rfl]; exact agg_take a) (agg_zero a)) rfl rfl ?_
    refine s_val rfl rfl rfl rfl ?_
    refine s_ret1 (ih a hmem (hfa a hmem) (hsa a hmem) B1 T1 M1 (by have := G1.most; omega)) rfl rfl rfl rfl ?_
    rintro _ h2 ⟨rfl, p2, B2, F3⟩
    have g2 := (F3.keep h.next (by show h.next < h1.next; omega) (fun h5 => by
     rcases List.mem_cons.1 h5 with h6 | h6
     ·omega
     ·exact na1 h6)).trans g1
    have na2 : h.next ∉ p2.own s := fun h5 => by
     rcases F3.new h.next (by simp [h5]) with h6 | h6
     ·rcases List.mem_cons.1 h6 with h7 | h7
      ·omega
      ·exact na1 h7
     ·have h8 : h1.next ≤ h.next := h6
      omega
    have hn2 : h1.next ≤ h2.next := F3.next
    have hrow2 : RowAt h2 1 (.msl h.next 0 az.length 0 1) az.length (nats ((S.buildL m (az.take i)).2.2 ++ List.replicate (az.length - i) 0)) := .row g2 (by rw [nats_length, List.length_append, len1, List.length_replicate]; omega) (by omega)
    obtain ⟨q5, id5, ver5, hv5, hq5, hq6⟩ := hrow2.write (C := ctx) (w := vint (((S.buildL m (az.take i)).1.build (S.buildL m (az.take i)).2.1 a).2.2 : Nat)) hil (t := 72) (e := 3) rfl rfl rfl rfl rfl rfl
    simp only [AV.msl.injEq] at hv5
    obtain ⟨rfl, _, _, rfl, _⟩ := hv5
    refine s_val rfl (o_indexV rfl rfl rfl hq5) rfl rfl ?_
    refine s_setH rfl (o_storeV rfl rfl rfl (hq6 _)) rfl ?_
    refine s_nil <| s_region ?_
    refine s_val rfl (o_eq rfl (wrap_succ (n := i) (by omega))) rfl rfl ?_
    refine s_val rfl rfl rfl rfl <| s_nil ?_
    have hset : putAt (nats ((S.buildL m (az.take i)).2.2 ++ List.replicate (az.length - i) 0)) (i * 1) (AV.cells (vint (((S.buildL m (az.take i)).1.build (S.buildL m (az.take i)).2.1 a).2.2 : Nat))) = nats ((S.buildL m (az.take (i + 1))).2.2 ++ List.replicate (az.length - (i + 1)) 0) := by
     show putAt _ (i * 1) [vint _] = _
     rw [nats_set (by rw [List.length_append, len1, List.length_replicate]; omega), hsn]
     congr 1
     simp only
     rw [List.set_append_right _ _ (by omega), len1, Nat.sub_self, show az.length - i = (az.length - (i + 1)) + 1 by omega, List.replicate_succ, List.set_cons_zero, List.append_assoc]
     rfl
    refine ⟨⟨i + 1, h2.set h.next (.cells (nats ((S.buildL m (az.take (i + 1))).2.2 ++ List.replicate (az.length - (i + 1)) 0)) 0), p2⟩, ⟨hil, ?_, ?_, ?_, ?_, na2, ?_⟩, by simp only; omega, ⟨rfl, rfl, rfl, rfl, rfl, rfl, rfl, trivial⟩, ⟨rfl, trivial⟩, congrArg (fun c => h2.set h.next (.cells c 0)) hset.symm⟩
    ·simp only
     rw [hsn]
     exact ⟨B2.hS.keep (Nat.le_refl _) fun id h5 => Hp.get_set_ne fun h6 => na2 (by rw [← h6]; exact h5), (Hp.get_set_ne (by omega)).trans B2.hm, B2.nm, B2.lm⟩
    ·have T2 := T1.fram F3
     exact ⟨(Hp.get_set_ne (by have := hT.lt; omega)).trans T2.gt, T2.nt, T2.tm, T2.lt⟩
    ·have F4 := F2.trans F3
     exact ⟨F4.next, fun id h5 h6 => by rw [Hp.get_set_ne (by omega)]; exact F4.keep id h5 h6, F4.new⟩
    ·show h.next + 1 ≤ h2.next; omega
    ·exact Hp.get_set_eq
   ·refine s_cond_f (congrArg (fun t => some (vbool t)) (decide_eq_false (show ¬ (i : Int) < (az.length : Nat) from fun h => hil (Int.ofNat_lt.1 h)))) ?_
    have hie : i = az.length := by omega
    subst hie
    rw [List.take_length] at B1 g1 M1 L1 G1 len1
    rw [Nat.sub_self] at g1
    simp only [List.replicate, List.append_nil] at g1
    clear hmade
    generalize S.buildL m az = R at B1 g1 M1 L1 G1 len1 ⊢
    obtain ⟨S1, m1, l1⟩ := R
    simp only at B1 g1 M1 L1 G1 len1 ⊢
    have hSl : S1.nodes.length ≤ 2 ^ 20 := Nat.le_trans M1.wf.size (by decide)
    have rown : RowN h1.get (.msl h.next 0 az.length 0 1) l1 := by
     rw [← len1]
     exact .row g1 (by rw [List.take_of_length_le (by rw [nats_length]; omega)])
    have fin : ∀ {h2 : Hp} {x : UNode}, Added h1 s S1 p1 x h2 → ∃ p', BM (fun z : Nat => vint z) h2 s mp (S1.add x) p' m1 ∧ Fram h h2 (mp :: p.own s) (mp :: p'.own s) := fun {h2 x} ⟨p', hS2, F3⟩ => ⟨p', B1.fram hS2 F3, F2.trans (F3.more mp)⟩
    refine s_exit ?_
    refine s_seq <| s_seq <| s_region <| s_val rfl rfl rfl rfl <| s_val rfl rfl rfl rfl <| s_nil ?_
    cases hcase with
    | var _ _ => exact absurd rfl hk
    | con hk2 =>
     refine s_block <| s_seq <| s_region <| s_val rfl rfl rfl rfl <| s_val rfl rfl rfl rfl <| s_nil <| s_cond_f rfl <| s_seq <| s_region <| s_val rfl rfl rfl rfl <| s_val rfl rfl rfl rfl <| s_nil <| s_cond_f rfl <| s_skip <| s_seq ?_
     refine s_drawn { ord := [0, 1, 2, 3, 4, 5, 6, 7, 8, 9, 10, 11, 12], wr := 128, cl := [0, 1, 3, 7, 0, 16, 0, 127, 255, 511, 511, 1023, 4095] } (by kernel_rfl) ?_
     iterate 3 refine d_val rfl rfl rfl rfl rfl ?_
     refine d_val rfl rfl (o_load rfl rfl rfl T1.gt rfl rfl) rfl rfl ?_
     iterate 3 refine d_val rfl rfl rfl rfl rfl ?_
     refine d_ret1 (con_ret kindOk B1.hS hSl rown (fun id h5 => by simp [AV.own] at h5; omega) (by omega) L1 hnm hk2) rfl rfl (c_val rfl rfl rfl (args3 rfl rfl rfl rfl rfl rfl)) rfl rfl ?_
     rintro _ h2 ⟨rfl, hA⟩
     iterate 5 refine d_val rfl rfl rfl rfl rfl ?_
     refine d_nil ⟨trivial, trivial, ?_⟩
     refine s_seq <| s_region <| s_val rfl rfl rfl rfl <| s_val rfl rfl rfl rfl <| s_nil <| s_ret ?_
     exact ⟨.inr rfl, _, rfl, rfl, fin hA⟩
    | pair hk2 =>
     refine s_block <| s_seq <| s_region <| s_val rfl rfl rfl rfl <| s_val rfl rfl rfl rfl <| s_nil <| s_cond_t rfl <| s_seq <| s_region ?_
     iterate 3 refine s_val rfl rfl rfl rfl ?_
     refine s_val rfl (o_load rfl rfl rfl T1.gt rfl rfl) rfl rfl ?_
     refine s_val rfl rfl rfl rfl ?_
     refine s_ret1 (pair_ret B1.hS hSl rown (fun id h5 => by simp [AV.own] at h5; omega) (by omega) L1 (by omega)) rfl (c_val rfl rfl rfl (args2 rfl rfl rfl rfl)) rfl rfl ?_
     rintro _ h2 ⟨rfl, hA⟩
     iterate 5 refine s_val rfl rfl rfl rfl ?_
     refine s_nil <| s_seq <| s_region <| s_val rfl rfl rfl rfl <| s_val rfl rfl rfl rfl <| s_nil <| s_ret ?_
     exact ⟨.inr rfl, _, rfl, rfl, fin hA⟩
    | arrow hk2 =>
     obtain ⟨a0, b0, rfl⟩ : ∃ x y, l1 = [x, y] := by
      match l1, len1.trans hk2 with
      | [x, y], _ => exact ⟨x, y, rfl⟩
     refine s_block <| s_seq <| s_region <| s_val rfl rfl rfl rfl <| s_val rfl rfl rfl rfl <| s_nil <| s_cond_f rfl <| s_seq <| s_region <| s_val rfl rfl rfl rfl <| s_val rfl rfl rfl rfl <| s_nil <| s_cond_t rfl <| s_seq ?_
     refine s_drawn { ord := [0, 1, 2, 3, 4, 5, 6, 7, 8], wr := 128, cl := [0, 0, 2, 6, 0, 16, 48, 127, 255] } (by kernel_rfl) ?_
     refine d_val rfl rfl rfl rfl rfl <| d_val rfl rfl rfl rfl rfl ?_
     refine d_val rfl rfl (o_index rfl rfl rfl rfl rfl rfl (by decide) (by omega)) rfl rfl ?_
     refine d_val rfl rfl (o_load rfl rfl rfl g1 rfl rfl) rfl rfl ?_
     refine d_val rfl rfl rfl rfl rfl ?_
     refine d_val rfl rfl (o_index rfl rfl rfl rfl rfl rfl (by decide) (by omega)) rfl rfl ?_
     refine d_val rfl rfl (o_load rfl rfl rfl g1 rfl rfl) rfl rfl ?_
     refine d_ret1 (tarrow_ret B1.hS T1.gt hSl (L1 a0 (by simp)) (L1 b0 (by simp))) rfl rfl rfl rfl rfl ?_
     rintro _ h2 ⟨rfl, hA⟩
     refine d_val rfl rfl rfl rfl rfl ?_
     refine d_nil ⟨trivial, trivial, ?_⟩
     refine s_ret ?_
     exact ⟨.inr rfl, _, rfl, rfl, fin hA⟩
end Go.Dv.Us
/- node: a type is made in the law's store. -/
namespace Go.Dv.Us
open Go.Dv.K Go.Proofs
def famA (v : Nat) : AV := .d (.agg [.str [], .int .i64 v])
theorem rowN_of {h : Hp} {v : AV} {l : List Nat} {n : Nat} (r : RowAt h 1 v n (nats l)) (hl : l.length = n) : RowN h.get v l := by
 subst hl
 generalize hc : nats l = cs at r
 generalize hn : l.length = n at r
 cases r with
 | nil =>
  have : l = [] := List.length_eq_zero_iff.1 hn
  subst this; exact .nil
 | row hg _ _ => subst hn; subst hc; exact .row hg (by rw [List.take_of_length_le (by rw [nats_length]; exact Nat.le_refl _)])
structure NLx where
 i : Nat
 h : Hp
 p : At
 v : AV
theorem node_ret {s mp : Nat} : ∀ (T : Ty), T.Fit kindOf → T.Short → ∀ {h : Hp} {S : Store} {p : At} {m : List (Nat × Nat)}, BM famA h s mp S p m → Made kindOf S m → S.nodes.length + T.size ≤ 2 ^ 12 →
  Ret ctx Or Xo 28 [.ptr s 0 0, T.agg, .map mp] h (Built famA h s mp p (S.build m T)) := by
 intro T
 induction T using Ty.ind with
 | h k n nm b az ih =>
  intro hfit hshort h S p m B hM hsz
  have hge := Ty.sizeL_ge az
  have hsz1 : S.nodes.length + (1 + Ty.sizeL az) ≤ 2 ^ 12 := by simpa [Ty.size] using hsz
  obtain ⟨hf0, hfa⟩ := Ty.fit_mk.1 hfit
  have hcase := fits_cases.1 hf0
  have hnm : nm.length ≤ 2 ^ 30 := hshort (.mk k n nm b az) (by simp [Ty.pre])
  have hsa : ∀ a ∈ az, a.Short := fun a ha q hq => hshort q (by simp only [Ty.pre, List.mem_cons]; exact .inr (mem_preL.2 ⟨a, ha, hq⟩))
  by_cases hk : k = 1
  ·subst hk
   have hn0 : 0 ≤ n := by cases hcase with | var h0 _ => exact h0
   obtain ⟨v, rfl⟩ : ∃ v : Nat, n = v := ⟨n.toNat, by omega⟩
   cases hg : getN m v with
   | some w =>
    have hlk : AV.tuple [((getN m v).map famA).getD (famA 0), vbool (getN m v).isSome] = .tuple [famA w, vbool true] := by rw [hg]; rfl
    have hb : S.build m (.mk 1 v nm b az) = (S, m, w) := by simp [Store.build, hg]
    rw [hb]
    refine body (env := [(0, .ptr s 0 0), (1, (Ty.mk 1 v nm b az).agg), (2, .map mp)]) (rs := [.tmp 6]) Tryz.func28 rfl rfl Tryz.ntmps28 rfl rfl ?_
    refine s_seq <| s_region ?_
    refine s_newL rfl (o_boxL rfl rfl rfl rfl rfl rfl (Ty.cells_isCell _) rfl) rfl rfl rfl ?_
    refine s_val rfl rfl rfl rfl <| s_nil <| s_seq <| s_seq <| s_region ?_
    iterate 3 refine s_val rfl rfl rfl rfl ?_
    refine s_nil <| s_cond_t rfl <| s_seq <| s_region ?_
    iterate 3 refine s_val rfl rfl rfl rfl ?_
    refine s_val rfl (o_eq (o_lookupOk (z := famA 0) rfl rfl rfl rfl rfl rfl B.hm rfl) hlk) rfl rfl ?_
    iterate 3 refine s_val rfl rfl rfl rfl ?_
    refine s_newL rfl rfl rfl rfl rfl ?_
    refine s_setL rfl (o_storeL rfl rfl rfl rfl rfl rfl rfl rfl (Nat.le_refl 2)) rfl ?_
    refine s_val rfl rfl rfl rfl <| s_nil <| s_seq <| s_seq <| s_region <| s_val rfl rfl rfl rfl <| s_val rfl rfl rfl rfl <| s_nil <| s_cond_f rfl <| s_skip <| s_seq <| s_region ?_
    iterate 3 refine s_val rfl rfl rfl rfl ?_
    refine s_nil <| s_ret ?_
    exact ⟨.inr rfl, _, rfl, rfl, p, B, .rfl'⟩
   | none =>
    have hlk : AV.tuple [((getN m v).map famA).getD (famA 0), vbool (getN m v).isSome] = .tuple [famA 0, vbool false] := by rw [hg]; rfl
    have hb : S.build m (.mk 1 v nm b az) = (S.add varN, putN m v S.nodes.length, S.nodes.length) := by simp [Store.build, hg]
    rw [hb]
    refine body (env := [(0, .ptr s 0 0), (1, (Ty.mk 1 v nm b az).agg), (2, .map mp)]) (rs := [.tmp 6]) Tryz.func28 rfl rfl Tryz.ntmps28 rfl rfl ?_
    refine s_seq <| s_region ?_
    refine s_newL rfl (o_boxL rfl rfl rfl rfl rfl rfl (Ty.cells_isCell _) rfl) rfl rfl rfl ?_
    refine s_val rfl rfl rfl rfl <| s_nil <| s_seq <| s_seq <| s_region ?_
    iterate 3 refine s_val rfl rfl rfl rfl ?_
    refine s_nil <| s_cond_t rfl <| s_seq <| s_region ?_
    iterate 3 refine s_val rfl rfl rfl rfl ?_
    refine s_val rfl (o_eq (o_lookupOk (z := famA 0) rfl rfl rfl rfl rfl rfl B.hm rfl) hlk) rfl rfl ?_
    iterate 3 refine s_val rfl rfl rfl rfl ?_
    refine s_newL rfl rfl rfl rfl rfl ?_
    refine s_setL rfl (o_storeL rfl rfl rfl rfl rfl rfl rfl rfl (Nat.le_refl 2)) rfl ?_
    refine s_val rfl rfl rfl rfl <| s_nil <| s_seq <| s_seq <| s_region <| s_val rfl rfl rfl rfl <| s_val rfl rfl rfl rfl <| s_nil <| s_cond_t rfl <| s_seq <| s_region <| s_val rfl rfl rfl rfl ?_
    refine s_ret1 (var_ret B.hS (by omega)) rfl rfl rfl rfl ?_
    rintro _ h1 ⟨rfl, p1, hS1, F1⟩
    have B1 := B.fram hS1 F1
    refine s_val rfl rfl rfl rfl ?_
    refine s_setL rfl (o_storeL rfl rfl rfl rfl rfl rfl rfl rfl (Nat.le_refl 2)) rfl ?_
    refine s_nil <| s_region ?_
    iterate 4 refine s_val rfl rfl rfl rfl ?_
    refine s_setH rfl (o_mapUp (f := famA) (v := S.nodes.length) rfl rfl rfl rfl rfl rfl rfl B1.hm rfl) rfl ?_
    refine s_nil <| s_seq <| s_region ?_
    iterate 3 refine s_val rfl rfl rfl rfl ?_
    refine s_nil <| s_ret ?_
    exact ⟨.inr rfl, _, rfl, rfl, p1, B1.put v S.nodes.length, (F1.more mp).trans (Fram.set1 _ (by simp))⟩
  ·have hmade : ∀ i, i ≤ az.length → Made kindOf (S.buildL m (az.take i)).1 (S.buildL m (az.take i)).2.1 ∧ (∀ a ∈ (S.buildL m (az.take i)).2.2, a < (S.buildL m (az.take i)).1.nodes.length) ∧ Grew S (S.buildL m (az.take i)).1 (Ty.sizeL (az.take i)) ∧ (S.buildL m (az.take i)).2.2.length = i := fun i hi => by
    have h1 : Ty.sizeL az = Ty.sizeL (az.take i) + Ty.sizeL (az.drop i) := by rw [← Ty.sizeL_append, List.take_append_drop]
    obtain ⟨a1, a2, a3, a4⟩ := buildL_made (az.take i) (fun a ha => hfa a (List.mem_of_mem_take ha)) hM (by omega)
    exact ⟨a1, a2, a3, by rw [a4, List.length_take]; omega⟩
   have hb : S.build m (.mk k n nm b az) = ((S.buildL m az).1.add ⟨k.toNat, nm, (S.buildL m az).2.2, false⟩, (S.buildL m az).2.1, (S.buildL m az).1.nodes.length) := by simp [Store.build, hk]
   rw [hb]
   refine body (env := [(0, .ptr s 0 0), (1, (Ty.mk k n nm b az).agg), (2, .map mp)]) (rs := [.tmp 6]) Tryz.func28 rfl rfl Tryz.ntmps28 rfl rfl ?_
   refine s_seq <| s_region ?_
   refine s_newL rfl (o_boxL rfl rfl rfl rfl rfl rfl (Ty.cells_isCell _) rfl) rfl rfl rfl ?_
   refine s_val rfl rfl rfl rfl <| s_nil <| s_seq <| s_seq <| s_region <| s_val rfl rfl rfl rfl <| s_val rfl rfl rfl rfl ?_
   refine s_val rfl (o_eq rfl (congrArg vbool (show (k == 1) = false from beq_false_of_ne hk))) rfl rfl ?_
   refine s_nil <| s_cond_f rfl <| s_skip <| s_seq <| s_region ?_
   refine s_newCells (cs := []) (len := 0) (sz := 1) (e := 3) rfl rfl rfl rfl ?_
   refine s_val rfl rfl rfl rfl <| s_nil <| s_seq <| s_seq <| s_region <| s_val rfl rfl rfl rfl <| s_nil <| s_block ?_
   have e1 : Ext h (h.newC [] 3) := Ext.newC ..
   have F1 : Fram h (h.newC [] 3) (mp :: p.own s) (mp :: p.own s) := e1.fram _
   have hown := B.hS.toRows4.olt
   refine s_rounds (ι := NLx) (fun j => ⟨[(0, .ptr s 0 0), (2, .map mp), (4, .lptr 4 0), (9, j.v), (10, vint j.i)], [(4, (Ty.mk k n nm b az).agg.cells)], j.h⟩)
    (fun j => j.i ≤ az.length ∧ BM famA j.h s mp (S.buildL m (az.take j.i)).1 j.p (S.buildL m (az.take j.i)).2.1 ∧ Fram h j.h (mp :: p.own s) (mp :: j.p.own s) ∧ RowAt j.h 1 j.v j.i (nats (S.buildL m (az.take j.i)).2.2) ∧ isNilS j.v = false ∧ (∀ id ∈ j.v.own, h.next ≤ id) ∧ ∀ id ∈ j.v.own, id ∉ j.p.own s) (fun j => az.length - j.i) ?_ ⟨0, _, p, .msl h.next 0 0 0 1⟩
    ⟨Nat.zero_le _, B.ext e1, F1, .row (if_pos rfl) rfl (Nat.lt_succ_self _), rfl, fun id h1 => by simp [AV.own] at h1; omega, fun id h1 h2 => by simp [AV.own] at h1; have := hown id h2; omega⟩ ⟨⟨rfl, rfl, rfl, rfl, rfl, trivial⟩, ⟨rfl, trivial⟩, rfl⟩
   rintro ⟨i, h1, p1, lv⟩ ⟨hi, B1, F2, R1, nil1, own1, no1⟩
   simp only at hi B1 F2 R1 nil1 own1 no1
   obtain ⟨M1, L1, G1, len1⟩ := hmade i hi
   have hmpl := B.lm
   have hcell := R1.cell
   refine s_seq <| s_seq <| s_region ?_
   iterate 3 refine s_val rfl rfl rfl rfl ?_
   refine s_val rfl (o_lenV rfl rfl (args1 rfl rfl) rfl rowD_kind rowD_len) rfl rfl ?_
   refine s_val rfl rfl rfl rfl <| s_nil ?_
   by_cases hil : i < az.length
   ·refine s_cond_t (congrArg (fun t => some (vbool t)) (decide_eq_true (show (i : Int) < (az.length : Nat) from Int.ofNat_lt.2 hil))) ?_
    have hmem := getD_mem' hil
    have hdh := drop_head hil
    have htk : az.take (i + 1) = az.take i ++ [az.getD i default] := by
     rw [List.take_add_one]; simp [List.getD_eq_getElem?_getD, hil]
    have hszl : Ty.sizeL (az.take i) + (az.getD i default).size ≤ Ty.sizeL az := by
     have h3 : Ty.sizeL az = Ty.sizeL (az.take i) + Ty.sizeL (az.drop i) := by rw [← Ty.sizeL_append, List.take_append_drop]
     rw [h3, hdh]; simp [Ty.sizeL]
    generalize az.getD i default = a at hmem hdh htk hszl
    have hat := rowD_at (b := b) hil
    rw [hdh] at hat
    have hsn := buildL_snoc (az.take i) a (S := S) (m := m)
    rw [← htk] at hsn
    refine s_skip <| s_seq <| s_block <| s_region ?_
    iterate 5 refine s_val rfl rfl rfl rfl ?_
    refine s_val rfl (o_indexV rfl rfl rfl hat) rfl rfl ?_
    refine s_val rfl (o_loadV rfl rfl head_load) rfl rfl ?_
    refine s_val rfl rfl rfl rfl ?_
    refine s_ret1 (ih a hmem (hfa a hmem) (hsa a hmem) B1 M1 (by have := G1.most; omega)) rfl rfl rfl rfl ?_
    rintro _ h2 ⟨rfl, p2, B2, F3⟩
    have F3n : h1.next ≤ h2.next := F3.next
    have hF2n := F2.next
    have k3 : ∀ id ∈ lv.own, h2.get id = h1.get id := fun id h5 => F3.keep id (R1.lt id h5) (fun h6 => by
     rcases List.mem_cons.1 h6 with h7 | h7
     ·have := own1 id h5; omega
     ·exact no1 id h5 h7)
    have R2 : RowAt h2 1 lv i (nats (S.buildL m (az.take i)).2.2) := R1.keep F3n k3
    have no2 : ∀ id ∈ lv.own, id ∉ p2.own s := fun id h5 h6 => by
     rcases F3.new id (by simp [h6]) with h7 | h7
     ·rcases List.mem_cons.1 h7 with h8 | h8
      ·have := own1 id h5; omega
      ·exact no1 id h5 h8
     ·have := R1.lt id h5
      have h8 : h1.next ≤ id := h7
      omega
    generalize hR2 : ((S.buildL m (az.take i)).1.build (S.buildL m (az.take i)).2.1 a) = R at B2 hsn ⊢
    obtain ⟨S2, m2, x2⟩ := R
    simp only at B2 hsn ⊢
    refine s_val rfl rfl rfl rfl ?_
    refine s_append R2 rfl rfl rfl (args2 rfl hcell.2.1 rfl rfl) rfl rfl rfl rfl rfl rfl (by decide) rfl (new := nats [x2]) rfl rfl (by decide) rfl (by decide) (by omega) rfl rfl ?_
    intro h3 v3 L3
    have hown2 := B2.hS.toRows4.olt
    have no3 : ∀ id ∈ v3.own, id ∉ p2.own s := fun id h5 h6 => by
     rcases L3.own id h5 with h7 | h7
     ·exact no2 id h7 h6
     ·have := hown2 id h6; omega
    have k4 : ∀ id ∈ p2.own s, h3.get id = h2.get id := fun id h5 => L3.keep id (hown2 id h5) fun h6 => no2 id h6 h5
    have B3 : BM famA h3 s mp S2 p2 m2 := ⟨B2.hS.keep L3.next k4, (L3.keep mp B2.lm (fun h5 => by have := own1 mp h5; omega)).trans B2.hm, B2.nm, Nat.lt_of_lt_of_le B2.lm L3.next⟩
    have F4 : Fram h h3 (mp :: p.own s) (mp :: p2.own s) := by
     have F5 := F2.trans F3
     exact ⟨Nat.le_trans F5.next L3.next, fun id h5 h6 => by rw [L3.keep id (Nat.lt_of_lt_of_le h5 F5.next) (fun h7 => by have := own1 id h7; omega)]; exact F5.keep id h5 h6, F5.new⟩
    refine s_val rfl rfl rfl rfl <| s_nil <| s_region <| s_val rfl rfl rfl rfl ?_
    refine s_val rfl (o_eq rfl (wrap_succ (n := i) (by omega))) rfl rfl ?_
    refine s_val rfl rfl rfl rfl <| s_nil ?_
    refine ⟨⟨i + 1, h3, p2, v3⟩, ⟨hil, ?_, F4, ?_, ?_, fun id h5 => ?_, no3⟩, by simp only; omega, ⟨rfl, rfl, rfl, rfl, rfl, trivial⟩, ⟨rfl, trivial⟩, rfl⟩
    ·simp only; rw [hsn]; exact B3
    ·simp only; rw [hsn, nats_append]; exact L3.row
    ·obtain ⟨id, ver, he⟩ := L3.row.ne (Nat.succ_pos _)
     simp only; rw [he]; rfl
    ·rcases L3.own id h5 with h6 | h6
     ·exact own1 id h6
     ·have := F2.next
      have h7 : h2.next ≤ id := h6
      have h8 : h.next ≤ h1.next := hF2n
      omega
   ·refine s_cond_f (congrArg (fun t => some (vbool t)) (decide_eq_false (show ¬ (i : Int) < (az.length : Nat) from fun h => hil (Int.ofNat_lt.1 h)))) ?_
    have hie : i = az.length := by omega
    subst hie
    rw [List.take_length] at B1 R1 M1 L1 G1 len1
    clear hmade
    generalize S.buildL m az = R at B1 R1 M1 L1 G1 len1 ⊢
    obtain ⟨S1, m1, l1⟩ := R
    simp only at B1 R1 M1 L1 G1 len1 ⊢
    have hSl : S1.nodes.length ≤ 2 ^ 20 := Nat.le_trans M1.wf.size (by decide)
    have rown : RowN h1.get lv l1 := rowN_of R1 len1
    have fin : ∀ {h2 : Hp} {x : UNode}, Added h1 s S1 p1 x h2 → ∃ p', BM famA h2 s mp (S1.add x) p' m1 ∧ Fram h h2 (mp :: p.own s) (mp :: p'.own s) := fun {h2 x} ⟨p', hS2, F3⟩ => ⟨p', B1.fram hS2 F3, F2.trans (F3.more mp)⟩
    have hN : ∀ k, argsN k nm lv l1 = ⟨k, nm, l1, false⟩ := fun k => by unfold argsN; rw [nil1]
    refine s_exit ?_
    refine s_seq <| s_region <| s_val rfl rfl rfl rfl <| s_nil <| s_seq <| s_seq <| s_region <| s_val rfl rfl rfl rfl <| s_val rfl rfl rfl rfl <| s_nil ?_
    cases hcase with
    | var _ _ => exact absurd rfl hk
    | con hk2 =>
     refine s_block <| s_seq <| s_region <| s_val rfl rfl rfl rfl <| s_val rfl rfl rfl rfl <| s_nil <| s_cond_t rfl <| s_region ?_
     iterate 4 refine s_val rfl rfl rfl rfl ?_
     refine s_ret1 (con_ret kindOk B1.hS hSl rown R1.lt (by omega) L1 hnm hk2) rfl (c_val rfl rfl rfl (args3 rfl rfl rfl rfl rfl hcell.2.1)) rfl rfl ?_
     rintro _ h2 ⟨rfl, hA⟩
     rw [hN] at hA
     iterate 4 refine s_val rfl rfl rfl rfl ?_
     refine s_nil <| s_seq <| s_region <| s_val rfl rfl rfl rfl <| s_val rfl rfl rfl rfl <| s_nil <| s_ret ?_
     exact ⟨.inr rfl, _, rfl, rfl, fin hA⟩
    | pair hk2 =>
     refine s_block <| s_seq <| s_region <| s_val rfl rfl rfl rfl <| s_val rfl rfl rfl rfl <| s_nil <| s_cond_f rfl <| s_seq <| s_region <| s_val rfl rfl rfl rfl <| s_val rfl rfl rfl rfl <| s_nil <| s_cond_t rfl <| s_region <| s_val rfl rfl rfl rfl <| s_val rfl rfl rfl rfl ?_
     refine s_ret1 (pair_ret B1.hS hSl rown R1.lt (by omega) L1 (by omega)) rfl (c_val rfl rfl rfl (args2 rfl rfl rfl hcell.2.1)) rfl rfl ?_
     rintro _ h2 ⟨rfl, hA⟩
     rw [hN] at hA
     iterate 4 refine s_val rfl rfl rfl rfl ?_
     refine s_nil <| s_seq <| s_region <| s_val rfl rfl rfl rfl <| s_val rfl rfl rfl rfl <| s_nil <| s_ret ?_
     exact ⟨.inr rfl, _, rfl, rfl, fin hA⟩
    | arrow hk2 =>
     obtain ⟨a0, b0, rfl⟩ : ∃ x y, l1 = [x, y] := by
      match l1, len1.trans hk2 with
      | [x, y], _ => exact ⟨x, y, rfl⟩
     obtain ⟨q1, hq1, hq2⟩ := read1 R1 (i := 0) (by omega) (C := ctx) (t := 72) (e := 3) rfl rfl rfl rfl
     obtain ⟨q3, hq3, hq4⟩ := read1 R1 (i := 1) (by omega) (C := ctx) (t := 72) (e := 3) rfl rfl rfl rfl
     refine s_block <| s_seq <| s_region <| s_val rfl rfl rfl rfl <| s_val rfl rfl rfl rfl <| s_nil <| s_cond_f rfl <| s_seq <| s_region <| s_val rfl rfl rfl rfl <| s_val rfl rfl rfl rfl <| s_nil <| s_cond_f rfl <| s_seq <| s_region <| s_val rfl rfl rfl rfl <| s_val rfl rfl rfl rfl <| s_nil <| s_cond_t rfl ?_
     refine s_drawn { ord := [0, 1, 2, 3, 4, 5, 6, 7, 8, 9, 10, 11], wr := 128, cl := [0, 0, 2, 6, 0, 16, 48, 127, 255, 511, 511, 1023] } (by kernel_rfl) ?_
     refine d_val rfl rfl rfl rfl rfl <| d_val rfl rfl rfl rfl rfl ?_
     refine d_val rfl rfl (o_indexV rfl rfl rfl hq1) rfl rfl ?_
     refine d_val rfl rfl (o_loadV rfl rfl (hq2 _)) rfl rfl ?_
     refine d_val rfl rfl rfl rfl rfl ?_
     refine d_val rfl rfl (o_indexV rfl rfl rfl hq3) rfl rfl ?_
     refine d_val rfl rfl (o_loadV rfl rfl (hq4 _)) rfl rfl ?_
     refine d_ret1 (arrow_ret B1.hS hSl (L1 a0 (by simp)) (L1 b0 (by simp))) rfl rfl rfl rfl rfl ?_
     rintro _ h2 ⟨rfl, hA⟩
     iterate 4 refine d_val rfl rfl rfl rfl rfl ?_
     refine d_nil ⟨trivial, trivial, ?_⟩
     refine s_seq <| s_region <| s_val rfl rfl rfl rfl <| s_val rfl rfl rfl rfl <| s_nil <| s_ret ?_
     exact ⟨.inr rfl, _, rfl, rfl, fin hA⟩
end Go.Dv.Us
/- A typer's memory; alike, fresh, last. -/
namespace Go.Dv.Us
open Go.Dv.K Go.Proofs
def nd0 : List DV := nodeA 4 4 5 0 [121] .nilslice
def nd1 : List DV := nodeA 5 8 9 0 [102] .nilslice
def nd2 : List DV := nodeA 5 10 11 0 [120] .nilslice
def nd3 : List DV := nodeA 11 8 11 0 [] (.imm [.int .i64 1, .int .i64 2] 2)
def nd4 : List DV := nodeA 1 0 11 0 [] (.imm [.int .i64 0, .int .i64 3] 2)
theorem nodesD_eq : nodesD = .imm (nd0 ++ nd1 ++ nd2 ++ nd3 ++ nd4) 5 := rfl
/-- Where a typer's parts lie. -/
structure TI7 where
 t : Nat
 r : Nat
 s : Nat
 ni : Nat
 li : Nat
 mi : Nat
 me : Nat
 mc : Nat
def TI7.typerC (i : TI7) (c f to : Int) : List AV := [.ptr i.s 0 0, .ptr i.r 0 0, .msl i.ni 0 5 0 1, .msl i.li 0 5 0 1, vint c, vint f, vint to]
def TI7.resC (i : TI7) : List AV := [.d nodesD, .map i.me, .map i.mc, .msl i.mi 0 5 0 1, vint 0, vint 0, vint 0]
def lets : List AV := [vint (-1), vint (-1), vint (-1), vint 4, vint (-1)]
def nils : List AV := [.d .nilptr, .d .nilptr, .d .nilptr, .d .nilptr, .d .nilptr]
def expo (F X : Ty) : List (DV × AV) := [(.str [102], F.agg), (.str [120], X.agg)]
/-- A typer's memory. -/
structure TY (F X : Ty) (i : TI7) (h : Hp) (S : Store) (p : At) (ns : List Nat) : Prop where
 hS : StoreAt h i.s S p
 gt : h.get i.t = some (.cells (i.typerC 0 0 0) 0)
 gr : h.get i.r = some (.cells i.resC 0)
 gn : h.get i.ni = some (.cells (nats ns) 0)
 gl : h.get i.li = some (.cells lets 0)
 gm : h.get i.mi = some (.cells nils 0)
 ge : h.get i.me = some (.map (expo F X))
 no : ∀ id ∈ [i.t, i.r, i.ni, i.li, i.mi, i.me], id ∉ p.own i.s ∧ id < h.next
 nd : [i.ni, i.t, i.r, i.li, i.mi, i.me].Nodup
 len : ns.length = 5
section
variable {F X : Ty} {i : TI7} {h h' : Hp} {S S' : Store} {p p' : At} {ns : List Nat}
theorem TY.fram (T : TY F X i h S p ns) (hS : StoreAt h' i.s S' p') (f : Fram h h' (p.own i.s) (p'.own i.s)) : TY F X i h' S' p' ns := by
 have k : ∀ id ∈ [i.t, i.r, i.ni, i.li, i.mi, i.me], h'.get id = h.get id := fun id hm => f.keep id (T.no id hm).2 (T.no id hm).1
 refine ⟨hS, (k _ (by simp)).trans T.gt, (k _ (by simp)).trans T.gr, (k _ (by simp)).trans T.gn, (k _ (by simp)).trans T.gl, (k _ (by simp)).trans T.gm, (k _ (by simp)).trans T.ge, fun id hm => ⟨fun h1 => ?_, Nat.lt_of_lt_of_le (T.no id hm).2 f.next⟩, T.nd, T.len⟩
 rcases f.new id h1 with h2 | h2
 ·exact (T.no id hm).1 h2
 ·have := (T.no id hm).2; omega
theorem TY.ext (T : TY F X i h S p ns) (e : Ext h h') : TY F X i h' S p ns := T.fram (T.hS.ext e) (e.fram _)
theorem TY.set (T : TY F X i h S p ns) {ns' : List Nat} (hl : ns'.length = 5) : TY F X i (h.set i.ni (.cells (nats ns') 0)) S p ns' := by
 have nd := T.nd
 simp only [List.nodup_cons, List.mem_cons, not_or, List.not_mem_nil, not_false_eq_true, List.nodup_nil, and_true] at nd
 obtain ⟨⟨n1, n2, n3, n4, n5⟩, _⟩ := nd
 exact ⟨T.hS.keep (Nat.le_refl _) fun id h1 => Hp.get_set_ne fun h2 => (T.no i.ni (by simp)).1 (by rw [← h2]; exact h1), (Hp.get_set_ne fun h1 => n1 h1.symm).trans T.gt, (Hp.get_set_ne fun h1 => n2 h1.symm).trans T.gr, Hp.get_set_eq, (Hp.get_set_ne fun h1 => n3 h1.symm).trans T.gl, (Hp.get_set_ne fun h1 => n4 h1.symm).trans T.gm, (Hp.get_set_ne fun h1 => n5 h1.symm).trans T.ge, T.no, T.nd, hl⟩
theorem TY.ts (T : TY F X i h S p ns) {mp : Nat} (hm : i.t ≠ mp) : TS h i.t i.s mp [.ptr i.r 0 0, .msl i.ni 0 5 0 1, .msl i.li 0 5 0 1, vint 0, vint 0, vint 0] p := ⟨T.gt, (T.no i.t (by simp)).1, hm, (T.no i.t (by simp)).2⟩
theorem putNs {ns : List Nat} {k x : Nat} (hk : k < ns.length) : putAt (nats ns) (0 + ((k : Nat) : Int).toNat * 1) [vint x] = nats (ns.set k x) := by
 rw [Nat.zero_add, Int.toNat_natCast]; exact nats_set hk
theorem nodeCells {cs : List DV} (hl : cs.length = 6) : (AV.d (.agg cs)).cells.length = 6 := by show (cs.map AV.d).length = 6; rw [List.length_map, hl]
/-- What fails tells a fault. -/
def Failed (i : TI7) (c f to : Int) (h : Hp) : Prop := h.get i.t = some (.cells (i.typerC c f to) 0)
theorem alike_ret (T : TY F X i h S p ns) (hw : Wf S) {k fr to num : Int} {nm : List UInt8} {kids : DV} (hk : kids = .nilslice ∨ ∃ cs n, kids = .imm cs n) {a b : Nat} (ha : a < S.nodes.length) (hb : b < S.nodes.length) {kk e : Nat} (hk0 : kk ≤ 2 ^ 25) (hu : S.unify kk a b = some (S', e)) (he : e = 131 ∨ e = 130 ∨ e = 0) :
  Ret ctx Or Xo 171 [.ptr i.t 0 0, .d (.agg (nodeA k fr to num nm kids)), vint a, vint b] h (fun v h' => (e = 0 ∧ v = vbool true ∧ TY F X i h' S' p ns ∧ Wf S' ∧ S'.nodes = S.nodes) ∨ (e ≠ 0 ∧ v = vbool false ∧ Failed i (if e = 130 then 6 else 5) fr to h')) := by
 have hc : (AV.cells (.d (.agg (nodeA k fr to num nm kids)))).all AV.isCell = true := by
  rcases hk with rfl | ⟨cs, n, rfl⟩ <;> rfl
 refine body (env := [(0, .ptr i.t 0 0), (1, .d (.agg (nodeA k fr to num nm kids))), (2, vint a), (3, vint b)]) (rs := [.tmp 8]) Tryz.func171 rfl rfl Tryz.ntmps171 rfl rfl ?_
 refine s_seq <| s_region ?_
 refine s_newL rfl (o_boxL rfl rfl rfl rfl rfl rfl hc rfl) rfl rfl rfl ?_
 refine s_val rfl rfl rfl rfl <| s_nil <| s_seq <| s_seq <| s_region ?_
 iterate 3 refine s_val rfl rfl rfl rfl ?_
 refine s_val rfl (o_load rfl rfl rfl T.gt rfl rfl) rfl rfl ?_
 refine s_val rfl rfl rfl rfl <| s_val rfl rfl rfl rfl ?_
 refine s_ret1 (unify_ret T.hS hw ha hb hk0 hu) rfl rfl rfl rfl ?_
 rintro _ h1 ⟨rfl, hok, F1⟩
 have gt1 := (F1.keep i.t (T.no i.t (by simp)).2 (T.no i.t (by simp)).1).trans T.gt
 refine s_nil ?_
 rcases he with rfl | rfl | rfl
 ·skip
  refine s_block <| s_seq <| s_region <| s_val rfl rfl rfl rfl <| s_val rfl rfl rfl rfl <| s_nil <| s_cond_f rfl <| s_seq <| s_region <| s_val rfl rfl rfl rfl <| s_val rfl rfl rfl rfl <| s_nil <| s_cond_f rfl <| s_region <| s_val rfl rfl rfl rfl <| s_val rfl rfl rfl rfl ?_
  refine s_ret1 (at_ret hk) rfl rfl rfl rfl ?_
  rintro _ _ ⟨rfl, rfl⟩
  refine s_val rfl rfl rfl rfl <| s_val rfl rfl rfl rfl ?_
  refine s_setH rfl (o_store rfl rfl rfl rfl rfl rfl rfl gt1 (Nat.le_of_ble_eq_true rfl)) rfl ?_
  refine s_nil <| s_seq <| s_region <| s_val rfl rfl rfl rfl <| s_nil <| s_ret ?_
  exact ⟨.inr rfl, _, rfl, .inr ⟨by decide, rfl, Hp.get_set_eq⟩⟩
 ·skip
  refine s_block <| s_seq <| s_region <| s_val rfl rfl rfl rfl <| s_val rfl rfl rfl rfl <| s_nil <| s_cond_f rfl <| s_seq <| s_region <| s_val rfl rfl rfl rfl <| s_val rfl rfl rfl rfl <| s_nil <| s_cond_t rfl <| s_region <| s_val rfl rfl rfl rfl <| s_val rfl rfl rfl rfl ?_
  refine s_ret1 (at_ret hk) rfl rfl rfl rfl ?_
  rintro _ _ ⟨rfl, rfl⟩
  refine s_val rfl rfl rfl rfl <| s_val rfl rfl rfl rfl ?_
  refine s_setH rfl (o_store rfl rfl rfl rfl rfl rfl rfl gt1 (Nat.le_of_ble_eq_true rfl)) rfl ?_
  refine s_nil <| s_seq <| s_region <| s_val rfl rfl rfl rfl <| s_nil <| s_ret ?_
  exact ⟨.inr rfl, _, rfl, .inr ⟨by decide, rfl, Hp.get_set_eq⟩⟩
 ·skip
  refine s_block <| s_seq <| s_region <| s_val rfl rfl rfl rfl <| s_val rfl rfl rfl rfl <| s_nil <| s_cond_t rfl <| s_seq <| s_region <| s_val rfl rfl rfl rfl <| s_nil <| s_ret ?_
  obtain ⟨o1, o2, o3⟩ := hok rfl
  exact ⟨.inr rfl, _, rfl, .inl ⟨rfl, rfl, T.fram o1 F1, o2, o3⟩⟩
theorem fresh_ret (T : TY F X i h S p ns) (hsz : S.nodes.length ≤ 2 ^ 20) {k : Nat} (hk : k < 5) :
  Ret ctx Or Xo 169 [.ptr i.t 0 0, vint k, .d (.agg nd0)] h (fun v h' => v = vbool true ∧ ∃ p', TY F X i h' (S.add varN) p' (ns.set k S.nodes.length)) := by
 refine body (env := [(0, .ptr i.t 0 0), (1, vint k), (2, .d (.agg nd0))]) (rs := [.tmp 6]) Tryz.func169 rfl rfl Tryz.ntmps169 rfl rfl ?_
 refine s_seq <| s_region ?_
 refine s_newL rfl rfl rfl rfl rfl ?_
 refine s_val rfl rfl rfl rfl <| s_nil <| s_seq ?_
 refine s_drawn { ord := [0, 1, 2, 3, 4, 5, 6, 7, 8, 9, 10, 11], wr := 2560, fl := [(3, 10)], cl := [0, 1, 3, 7, 0, 0, 32, 96, 224, 480, 1023, 2047] } (by kernel_rfl) ?_
 iterate 3 refine d_val rfl rfl rfl rfl rfl ?_
 refine d_val rfl rfl (o_load rfl rfl rfl T.gt rfl rfl) rfl rfl ?_
 iterate 4 refine d_val rfl rfl rfl rfl rfl ?_
 refine d_val rfl rfl (o_load rfl rfl rfl T.gt rfl rfl) rfl rfl ?_
 refine d_ret1 (var_ret T.hS hsz) rfl rfl rfl rfl rfl ?_
 rintro _ h1 ⟨rfl, p1, hS1, F1⟩
 have T1 := T.fram hS1 F1
 refine d_val rfl rfl (o_index rfl rfl rfl rfl rfl rfl (Int.natCast_nonneg _) (by omega)) rfl rfl ?_
 refine d_setH rfl rfl (o_store1 rfl rfl rfl rfl rfl rfl rfl rfl T1.gn (by rw [nats_length, T.len]; show 0 + ((k : Nat) : Int).toNat * 1 + 1 ≤ 5; omega)) rfl ?_
 refine d_nil ⟨⟨fun _ ho _ => by cases ho; exact (o_load rfl rfl rfl T1.gt rfl rfl).trans (o_load rfl rfl rfl T.gt rfl rfl).symm, trivial⟩, trivial, ?_⟩
 refine s_seq <| s_region <| s_val rfl rfl rfl rfl <| s_nil <| s_ret ?_
 have T2 := T1.set (ns' := ns.set k S.nodes.length) (by rw [List.length_set]; exact T.len)
 rw [← putNs (by rw [T.len]; exact hk)] at T2
 exact ⟨.inr rfl, _, rfl, rfl, p1, T2⟩
end
end Go.Dv.Us
/- last, apply, bound, name, way, on the tree of one name applied to another. -/
namespace Go.Dv.Us
open Go.Dv.K Go.Proofs
section
variable {F X : Ty} {i : TI7} {h h' : Hp} {S S' : Store} {p p' : At} {a0 a1 a2 a3 a4 : Nat}
theorem last_ret (T : TY F X i h S p [a0, a1, a2, a3, a4]) :
  Ret ctx Or Xo 168 [.ptr i.t 0 0, vint (4 : Nat), .d (.agg nd4)] h (fun v h' => v = vbool true ∧ TY F X i h' S p [a0, a1, a2, a3, a0]) := by
 refine body (env := [(0, .ptr i.t 0 0), (1, vint (4 : Nat)), (2, .d (.agg nd4))]) (rs := [.tmp 6]) Tryz.func168 rfl rfl Tryz.ntmps168 rfl rfl ?_
 refine s_seq <| s_region ?_
 refine s_newL rfl rfl rfl rfl rfl ?_
 refine s_val rfl rfl rfl rfl <| s_nil <| s_seq <| s_region ?_
 iterate 5 refine s_val rfl rfl rfl rfl ?_
 refine s_nil <| s_seq <| s_seq <| s_region ?_
 iterate 3 refine s_val rfl rfl rfl rfl ?_
 refine s_nil <| s_cond_f rfl <| s_skip <| s_seq ?_
 refine s_drawn { ord := [0, 1, 2, 3, 4, 5, 6, 7, 8, 9, 10, 11, 12, 13], wr := 8192, cl := [0, 1, 3, 7, 0, 0, 32, 96, 224, 0, 992, 2016, 4095, 8191] } (by kernel_rfl) ?_
 iterate 3 refine d_val rfl rfl rfl rfl rfl ?_
 refine d_val rfl rfl (o_load rfl rfl rfl T.gt rfl rfl) rfl rfl ?_
 iterate 4 refine d_val rfl rfl rfl rfl rfl ?_
 refine d_val rfl rfl (o_load rfl rfl rfl T.gt rfl rfl) rfl rfl ?_
 refine d_val rfl rfl rfl rfl rfl <| d_val rfl rfl rfl rfl rfl ?_
 refine d_val rfl rfl (o_load rfl rfl rfl T.gn rfl rfl) rfl rfl ?_
 refine d_val rfl rfl rfl rfl rfl ?_
 refine d_setH rfl rfl (o_store1 rfl rfl rfl rfl rfl rfl rfl rfl T.gn (Nat.le_refl 5)) rfl ?_
 refine d_nil ⟨trivial, trivial, ?_⟩
 refine s_seq <| s_region <| s_val rfl rfl rfl rfl <| s_nil <| s_ret ?_
 exact ⟨.inr rfl, _, rfl, rfl, T.set (ns' := [a0, a1, a2, a3, a0]) rfl⟩
theorem apply_ret (T : TY F X i h S p [a0, a1, a2, a3, a4]) (hM : Made kindOf S []) (hsz : S.nodes.length + 2 ≤ 2 ^ 12) (h1 : a1 < S.nodes.length) (h2 : a2 < S.nodes.length) {kk e : Nat} (hk0 : kk ≤ 2 ^ 25)
  (hu : ((S.add varN).add (arrowN a2 S.nodes.length)).unify kk a1 (S.nodes.length + 1) = some (S', e)) (he : e = 131 ∨ e = 130 ∨ e = 0) :
  Ret ctx Or Xo 162 [.ptr i.t 0 0, vint (3 : Nat), .d (.agg nd3)] h (fun v h' => (e = 0 ∧ v = vbool true ∧ ∃ p', TY F X i h' S' p' [a0, a1, a2, S.nodes.length, a4]) ∨ (e ≠ 0 ∧ v = vbool false ∧ Failed i (if e = 130 then 6 else 5) 8 11 h')) := by
 have hM1 := hM.add (x := varN) .var (fun a ha => by simp [varN] at ha) (by omega) (by simp [varN]) (fun _ => rfl)
 have l1 : (S.add varN).nodes.length = S.nodes.length + 1 := add_len
 have hM2 := hM1.add (x := arrowN a2 S.nodes.length) (.arrow rfl) (fun a ha => by
  simp only [arrowN, List.mem_cons, List.not_mem_nil, or_false] at ha
  rcases ha with rfl | rfl <;> omega) (by omega) (by simp [arrowN]) (fun h => by cases h)
 have l2 : ((S.add varN).add (arrowN a2 S.nodes.length)).nodes.length = S.nodes.length + 2 := by rw [add_len, l1]
 refine body (env := [(0, .ptr i.t 0 0), (1, vint (3 : Nat)), (2, .d (.agg nd3))]) (rs := [.tmp 6]) Tryz.func162 rfl rfl Tryz.ntmps162 rfl rfl ?_
 refine s_seq <| s_region ?_
 refine s_newL rfl rfl rfl rfl rfl ?_
 refine s_val rfl rfl rfl rfl <| s_nil <| s_seq ?_
 refine s_drawn { ord := [0, 1, 2, 3, 4, 5, 6, 7, 8, 9, 10, 11], wr := 2560, fl := [(3, 10)], cl := [0, 1, 3, 7, 0, 0, 32, 96, 224, 480, 1023, 2047] } (by kernel_rfl) ?_
 iterate 3 refine d_val rfl rfl rfl rfl rfl ?_
 refine d_val rfl rfl (o_load rfl rfl rfl T.gt rfl rfl) rfl rfl ?_
 iterate 4 refine d_val rfl rfl rfl rfl rfl ?_
 refine d_val rfl rfl (o_load rfl rfl rfl T.gt rfl rfl) rfl rfl ?_
 refine d_ret1 (var_ret T.hS (by omega)) rfl rfl rfl rfl rfl ?_
 rintro _ h1' ⟨rfl, p1, hS1, F1⟩
 have T1 := T.fram hS1 F1
 refine d_val rfl rfl rfl rfl rfl ?_
 refine d_setH rfl rfl (o_store1 rfl rfl rfl rfl rfl rfl rfl rfl T1.gn (Nat.le_of_ble_eq_true rfl)) rfl ?_
 refine d_nil ⟨⟨fun _ ho _ => by cases ho; exact (o_load rfl rfl rfl T1.gt rfl rfl).trans (o_load rfl rfl rfl T.gt rfl rfl).symm, trivial⟩, trivial, ?_⟩
 have T2 : TY F X i (h1'.set i.ni (.cells (putAt (nats [a0, a1, a2, a3, a4]) (0 + ((3 : Nat) : Int).toNat * 1) [vint S.nodes.length]) 0)) (S.add varN) p1 [a0, a1, a2, S.nodes.length, a4] := T1.set (ns' := [a0, a1, a2, S.nodes.length, a4]) rfl
 refine s_seq ?_
 refine s_drawn { ord := [0, 1, 2, 3, 4, 5, 6, 7, 8, 9, 10, 11, 12, 13, 14, 15, 16, 17, 18, 19, 20, 21, 22, 23, 24, 25, 26, 27, 28, 29, 30, 31, 32], wr := 3221225472, fl := [(1, 31), (5, 31), (7, 31), (9, 31), (11, 31)], cl := [0, 0, 0, 4, 12, 28, 0, 64, 192, 448, 1020, 2044, 0, 0, 8192, 24576, 57344, 0, 131072, 393216, 917504, 2088960, 4186112, 0, 8388608, 25165824, 58720256, 0, 260046848, 528482304, 1073737728, 2147483647, 4294967295] } (by kernel_rfl) ?_
 iterate 5 refine d_val rfl rfl rfl rfl rfl ?_
 refine d_val rfl rfl (o_load rfl rfl rfl T2.gt rfl rfl) rfl rfl ?_
 iterate 5 refine d_val rfl rfl rfl rfl rfl ?_
 refine d_val rfl rfl (o_load rfl rfl rfl T2.gn rfl rfl) rfl rfl ?_
 iterate 4 refine d_val rfl rfl rfl rfl rfl ?_
 refine d_val rfl rfl (o_load rfl rfl rfl T2.gt rfl rfl) rfl rfl ?_
 iterate 5 refine d_val rfl rfl rfl rfl rfl ?_
 refine d_val rfl rfl (o_load rfl rfl rfl T2.gn rfl rfl) rfl rfl ?_
 iterate 3 refine d_val rfl rfl rfl rfl rfl ?_
 refine d_val rfl rfl (o_load rfl rfl rfl T2.gt rfl rfl) rfl rfl ?_
 refine d_val rfl rfl rfl rfl rfl <| d_val rfl rfl rfl rfl rfl ?_
 refine d_val rfl rfl (o_load rfl rfl rfl T2.gn rfl rfl) rfl rfl ?_
 refine d_ret1 (tarrow_ret T2.hS T2.gt (by omega) (a := a2) (b := S.nodes.length) (by omega) (by omega)) rfl rfl rfl rfl rfl ?_
 rintro _ h4 ⟨rfl, p4, hS4, F4⟩
 have T4 := T2.fram hS4 F4
 rw [l1]
 refine d_ret1 (alike_ret (kids := .imm [.int .i64 1, .int .i64 2] 2) T4 hM2.wf (.inr ⟨_, _, rfl⟩) (a := a1) (b := S.nodes.length + 1) (by omega) (by omega) hk0 hu he) rfl rfl rfl rfl rfl ?_
 rintro vb h5 hA
 have hb : ∃ b : Bool, vb = vbool b := by
  rcases hA with ⟨_, h6, _⟩ | ⟨_, h6, _⟩
  ·exact ⟨true, h6⟩
  ·exact ⟨false, h6⟩
 obtain ⟨b, hb⟩ := hb
 subst hb
 refine d_val rfl rfl rfl rfl rfl ?_
 refine d_nil ⟨⟨fun _ ho _ => by cases ho; rfl, fun _ ho _ => by cases ho; exact (o_load rfl rfl rfl T4.gt rfl rfl).trans (o_load rfl rfl rfl T2.gt rfl rfl).symm, fun _ ho _ => by cases ho; rfl, fun _ ho _ => by cases ho; rfl, fun _ ho _ => by cases ho; exact (o_load rfl rfl rfl T4.gn rfl rfl).trans (o_load rfl rfl rfl T2.gn rfl rfl).symm, trivial⟩, trivial, ?_⟩
 refine s_ret ?_
 refine ⟨.inr rfl, _, rfl, ?_⟩
 rcases hA with ⟨h6, h7, h8, _⟩ | h6
 ·exact .inl ⟨h6, h7, p4, h8⟩
 ·exact .inr h6
theorem bound_ret (T : TY F X i h S p [a0, a1, a2, a3, a4]) (hw : Wf S) (h0 : a0 < S.nodes.length) (h3 : a3 < S.nodes.length) {kk : Nat} (hk0 : kk ≤ 2 ^ 25) (hu : S.unify kk a0 a3 = some (S', 0))
  (nok : ∀ n, n < S'.nodes.length → (S'.form n).kind = 1 → (S'.form n).args = []) {Ty0 : Ty} (hd : Den S' a0 Ty0) :
  Ret ctx Or Xo 92 [.ptr i.t 0 0, vint 4] h (fun v h' => (Ty0.size ≤ 300 ∧ v = vbool true ∧ ∃ p', TY F X i h' S' p' [a0, a1, a2, a3, a4]) ∨ (300 < Ty0.size ∧ v = vbool false ∧ Failed i 7 4 5 h')) := by
 refine body (env := [(0, .ptr i.t 0 0), (1, vint 4)]) (rs := [.tmp 4]) Tryz.func92 rfl rfl Tryz.ntmps92 rfl rfl ?_
 refine s_seq <| s_region <| s_val rfl rfl rfl rfl <| s_nil <| s_seq <| s_region ?_
 iterate 3 refine s_val rfl rfl rfl rfl ?_
 refine s_val rfl (o_load rfl rfl rfl T.gt rfl rfl) rfl rfl ?_
 refine s_val rfl rfl rfl rfl <| s_val rfl rfl rfl rfl ?_
 refine s_val rfl (o_load rfl rfl rfl T.gr rfl rfl) rfl rfl ?_
 iterate 3 refine s_val rfl rfl rfl rfl ?_
 refine s_newL rfl rfl rfl rfl rfl ?_
 refine s_setL rfl rfl rfl ?_
 refine s_nil <| s_seq <| s_region ?_
 iterate 5 refine s_val rfl rfl rfl rfl ?_
 refine s_nil <| s_seq <| s_seq ?_
 refine s_drawn { ord := [0, 1, 2, 3, 4, 5, 6, 7, 8, 9, 10, 11, 12, 13, 14, 15, 16, 17, 18, 19, 20, 21, 22, 23, 24, 25, 26, 27, 28, 29, 30, 31, 32], wr := 2147483648, cl := [0, 0, 2, 6, 14, 30, 62, 126, 0, 256, 768, 1792, 4094, 8190, 0, 16384, 49152, 114688, 0, 507904, 1032192, 0, 2097152, 6291456, 14680064, 0, 33554432, 100663296, 234881024, 534773760, 1071644672, 2147483647, 4294967295] } (by kernel_rfl) ?_
 iterate 4 refine d_val rfl rfl rfl rfl rfl ?_
 refine d_val rfl rfl (o_load rfl rfl rfl T.gt rfl rfl) rfl rfl ?_
 refine d_val rfl rfl rfl rfl rfl <| d_val rfl rfl rfl rfl rfl ?_
 refine d_val rfl rfl (o_load rfl rfl rfl T.gr rfl rfl) rfl rfl ?_
 iterate 9 refine d_val rfl rfl rfl rfl rfl ?_
 refine d_val rfl rfl (o_load rfl rfl rfl T.gt rfl rfl) rfl rfl ?_
 refine d_val rfl rfl rfl rfl rfl <| d_val rfl rfl rfl rfl rfl ?_
 refine d_val rfl rfl (o_load rfl rfl rfl T.gn rfl rfl) rfl rfl ?_
 iterate 3 refine d_val rfl rfl rfl rfl rfl ?_
 refine d_val rfl rfl (o_load rfl rfl rfl T.gt rfl rfl) rfl rfl ?_
 iterate 5 refine d_val rfl rfl rfl rfl rfl ?_
 refine d_val rfl rfl (o_load rfl rfl rfl T.gn rfl rfl) rfl rfl ?_
 refine d_ret1 (alike_ret (kids := .imm [.int .i64 1, .int .i64 2] 2) T hw (.inr ⟨_, _, rfl⟩) h0 h3 hk0 hu (.inr (.inr rfl))) rfl rfl rfl rfl rfl ?_
 rintro vb h5 hA
 obtain ⟨rfl, T5, hw5, hn5⟩ : vb = vbool true ∧ TY F X i h5 S' p [a0, a1, a2, a3, a4] ∧ Wf S' ∧ S'.nodes = S.nodes := by
  rcases hA with ⟨_, h6⟩ | ⟨h6, _⟩
  ·exact h6
  ·exact absurd rfl h6
 refine d_val rfl rfl rfl rfl rfl ?_
 refine d_nil ⟨trivial, trivial, ?_⟩
 refine s_cond_f rfl <| s_skip <| s_seq <| s_seq ?_
 refine s_drawn { ord := [0, 1, 2, 3, 4, 5, 6, 7, 8, 9, 10, 11, 12], wr := 2048, cl := [0, 1, 3, 7, 0, 16, 48, 112, 0, 496, 1008, 2047, 4095] } (by kernel_rfl) ?_
 iterate 3 refine d_val rfl rfl rfl rfl rfl ?_
 refine d_val rfl rfl (o_load rfl rfl rfl T5.gt rfl rfl) rfl rfl ?_
 iterate 3 refine d_val rfl rfl rfl rfl rfl ?_
 refine d_val rfl rfl (o_load rfl rfl rfl T5.gt rfl rfl) rfl rfl ?_
 refine d_val rfl rfl rfl rfl rfl <| d_val rfl rfl rfl rfl rfl ?_
 refine d_val rfl rfl (o_load rfl rfl rfl T5.gn rfl rfl) rfl rfl ?_
 refine d_ret1 (size_ret T5.hS hw5 nok (n := a0) (by rw [hn5]; exact h0) hd) rfl rfl rfl rfl rfl ?_
 rintro _ h6 ⟨rfl, e6⟩
 have T6 := T5.ext e6
 refine d_val rfl rfl rfl rfl rfl ?_
 refine d_nil ⟨trivial, trivial, ?_⟩
 by_cases hs : Ty0.size ≤ 300
 ·have h7 : size301 Ty0.size = Ty0.size := by unfold size301; rw [if_pos hs]
  refine s_cond_f (congrArg (fun t => some (vbool t)) (decide_eq_false (show ¬ ((size301 Ty0.size : Nat) : Int) > 300 by rw [h7]; omega))) ?_
  refine s_skip <| s_seq <| s_region <| s_val rfl rfl rfl rfl <| s_nil <| s_ret ?_
  exact ⟨.inr rfl, _, rfl, .inl ⟨hs, rfl, p, T6⟩⟩
 ·have h7 : size301 Ty0.size = 301 := by unfold size301; rw [if_neg hs]
  refine s_cond_t (congrArg (fun t => some (vbool t)) (decide_eq_true (show ((size301 Ty0.size : Nat) : Int) > 300 by rw [h7]; omega))) ?_
  refine s_seq <| s_region ?_
  iterate 4 refine s_val rfl rfl rfl rfl ?_
  refine s_val rfl (o_load rfl rfl rfl T6.gt rfl rfl) rfl rfl ?_
  refine s_val rfl rfl rfl rfl <| s_val rfl rfl rfl rfl ?_
  refine s_val rfl (o_load rfl rfl rfl T6.gr rfl rfl) rfl rfl ?_
  iterate 3 refine s_val rfl rfl rfl rfl ?_
  refine s_ret1 (at_ret (k := 4) (fr := 4) (to := 5) (num := 0) (nm := [121]) (kids := .nilslice) (.inl rfl)) rfl rfl rfl rfl ?_
  rintro _ h8 ⟨rfl, he8⟩
  subst he8
  refine s_val rfl rfl rfl rfl <| s_val rfl rfl rfl rfl ?_
  refine s_setH rfl (o_store rfl rfl rfl rfl rfl rfl rfl T6.gt (Nat.le_of_ble_eq_true rfl)) rfl ?_
  refine s_nil <| s_seq <| s_region <| s_val rfl rfl rfl rfl <| s_nil <| s_ret ?_
  exact ⟨.inr rfl, _, rfl, .inr ⟨by omega, rfl, Hp.get_set_eq⟩⟩
theorem _root_.Go.Dv.Fram.new' {h0 h h' : Hp} {mp : Nat} {o o' : List Nat} (e : Ext h0 h) (hm : h0.next ≤ mp) (f : Fram h h' (mp :: o) (mp :: o')) : Fram h0 h' o o' :=
 ⟨Nat.le_trans e.next f.next, fun id h1 h2 => (f.keep id (Nat.lt_of_lt_of_le h1 e.next) (fun h3 => by
  rcases List.mem_cons.1 h3 with h4 | h4
  ·omega
  ·exact h2 h4)).trans (e.keep id h1), fun id h1 => by
  rcases f.new id (by simp [h1]) with h2 | h2
  ·rcases List.mem_cons.1 h2 with h3 | h3
   ·exact .inr (by omega)
   ·exact .inl h3
  ·exact .inr (Nat.le_trans e.next h2)⟩
theorem way_ret {t : Nat} {k : Int} {f : FuncId} (hk : (k = 4 ∧ f = 169) ∨ (k = 5 ∧ f = 159) ∨ (k = 11 ∧ f = 162) ∨ (k = 1 ∧ f = 168)) {h : Hp} : Ret ctx Or Xo 91 [.ptr t 0 0, vint k] h (fun v h' => v = .clo f [.ptr t 0 0] [] ∧ h' = h) := by
 rcases hk with ⟨rfl, rfl⟩ | ⟨rfl, rfl⟩ | ⟨rfl, rfl⟩ | ⟨rfl, rfl⟩
 ·skip
  refine body (env := [(0, .ptr t 0 0), (1, vint 4)]) (rs := [.tmp 4]) Tryz.func91 rfl rfl Tryz.ntmps91 rfl rfl ?_
  refine s_seq <| s_region <| s_val rfl rfl rfl rfl <| s_nil <| s_seq <| s_seq <| s_region <| s_val rfl rfl rfl rfl <| s_nil <| s_block <| s_seq <| s_region <| s_val rfl rfl rfl rfl <| s_val rfl rfl rfl rfl <| s_nil <| s_cond_f rfl <| s_seq <| s_region <| s_val rfl rfl rfl rfl <| s_val rfl rfl rfl rfl <| s_nil <| s_cond_f rfl <| s_seq <| s_seq <| s_region <| s_val rfl rfl rfl rfl <| s_val rfl rfl rfl rfl <| s_nil <| s_cond_f rfl <| s_region <| s_val rfl rfl rfl rfl <| s_val rfl rfl rfl rfl <| s_nil <| s_cond_f rfl <| s_seq <| s_region <| s_val rfl rfl rfl rfl <| s_val rfl rfl rfl rfl <| s_nil <| s_cond_f rfl <| s_seq <| s_seq <| s_region <| s_val rfl rfl rfl rfl <| s_val rfl rfl rfl rfl <| s_nil <| s_cond_f rfl <| s_region <| s_val rfl rfl rfl rfl <| s_val rfl rfl rfl rfl <| s_nil <| s_cond_f rfl <| s_seq <| s_region <| s_val rfl rfl rfl rfl <| s_val rfl rfl rfl rfl <| s_nil <| s_cond_f rfl <| s_seq <| s_region <| s_val rfl rfl rfl rfl <| s_val rfl rfl rfl rfl <| s_nil <| s_cond_f rfl <| s_seq <| s_region <| s_val rfl rfl rfl rfl <| s_val rfl rfl rfl rfl <| s_nil <| s_cond_f rfl <| s_seq <| s_region <| s_val rfl rfl rfl rfl <| s_val rfl rfl rfl rfl <| s_nil <| s_cond_f rfl <| s_seq <| s_seq <| s_region <| s_val rfl rfl rfl rfl <| s_val rfl rfl rfl rfl <| s_nil <| s_cond_f rfl <| s_region <| s_val rfl rfl rfl rfl <| s_val rfl rfl rfl rfl <| s_nil <| s_cond_f rfl <| s_seq <| s_seq <| s_region <| s_val rfl rfl rfl rfl <| s_val rfl rfl rfl rfl <| s_nil <| s_cond_t rfl <| s_skip <| s_cond_t rfl <| s_seq <| s_region ?_
  iterate 3 refine s_val rfl rfl rfl rfl ?_
  refine s_nil <| s_ret ?_
  exact ⟨.inr rfl, _, rfl, rfl, rfl⟩
 ·skip
  refine body (env := [(0, .ptr t 0 0), (1, vint 5)]) (rs := [.tmp 4]) Tryz.func91 rfl rfl Tryz.ntmps91 rfl rfl ?_
  refine s_seq <| s_region <| s_val rfl rfl rfl rfl <| s_nil <| s_seq <| s_seq <| s_region <| s_val rfl rfl rfl rfl <| s_nil <| s_block <| s_seq <| s_region <| s_val rfl rfl rfl rfl <| s_val rfl rfl rfl rfl <| s_nil <| s_cond_t rfl <| s_seq <| s_region ?_
  iterate 3 refine s_val rfl rfl rfl rfl ?_
  refine s_nil <| s_ret ?_
  exact ⟨.inr rfl, _, rfl, rfl, rfl⟩
 ·skip
  refine body (env := [(0, .ptr t 0 0), (1, vint 11)]) (rs := [.tmp 4]) Tryz.func91 rfl rfl Tryz.ntmps91 rfl rfl ?_
  refine s_seq <| s_region <| s_val rfl rfl rfl rfl <| s_nil <| s_seq <| s_seq <| s_region <| s_val rfl rfl rfl rfl <| s_nil <| s_block <| s_seq <| s_region <| s_val rfl rfl rfl rfl <| s_val rfl rfl rfl rfl <| s_nil <| s_cond_f rfl <| s_seq <| s_region <| s_val rfl rfl rfl rfl <| s_val rfl rfl rfl rfl <| s_nil <| s_cond_f rfl <| s_seq <| s_seq <| s_region <| s_val rfl rfl rfl rfl <| s_val rfl rfl rfl rfl <| s_nil <| s_cond_f rfl <| s_region <| s_val rfl rfl rfl rfl <| s_val rfl rfl rfl rfl <| s_nil <| s_cond_f rfl <| s_seq <| s_region <| s_val rfl rfl rfl rfl <| s_val rfl rfl rfl rfl <| s_nil <| s_cond_t rfl <| s_seq <| s_region ?_
  iterate 3 refine s_val rfl rfl rfl rfl ?_
  refine s_nil <| s_ret ?_
  exact ⟨.inr rfl, _, rfl, rfl, rfl⟩
 ·skip
  refine body (env := [(0, .ptr t 0 0), (1, vint 1)]) (rs := [.tmp 4]) Tryz.func91 rfl rfl Tryz.ntmps91 rfl rfl ?_
  refine s_seq <| s_region <| s_val rfl rfl rfl rfl <| s_nil <| s_seq <| s_seq <| s_region <| s_val rfl rfl rfl rfl <| s_nil <| s_block <| s_seq <| s_region <| s_val rfl rfl rfl rfl <| s_val rfl rfl rfl rfl <| s_nil <| s_cond_f rfl <| s_seq <| s_region <| s_val rfl rfl rfl rfl <| s_val rfl rfl rfl rfl <| s_nil <| s_cond_f rfl <| s_seq <| s_seq <| s_region <| s_val rfl rfl rfl rfl <| s_val rfl rfl rfl rfl <| s_nil <| s_cond_f rfl <| s_region <| s_val rfl rfl rfl rfl <| s_val rfl rfl rfl rfl <| s_nil <| s_cond_f rfl <| s_seq <| s_region <| s_val rfl rfl rfl rfl <| s_val rfl rfl rfl rfl <| s_nil <| s_cond_f rfl <| s_seq <| s_seq <| s_region <| s_val rfl rfl rfl rfl <| s_val rfl rfl rfl rfl <| s_nil <| s_cond_f rfl <| s_region <| s_val rfl rfl rfl rfl <| s_val rfl rfl rfl rfl <| s_nil <| s_cond_f rfl <| s_seq <| s_region <| s_val rfl rfl rfl rfl <| s_val rfl rfl rfl rfl <| s_nil <| s_cond_f rfl <| s_seq <| s_region <| s_val rfl rfl rfl rfl <| s_val rfl rfl rfl rfl <| s_nil <| s_cond_f rfl <| s_seq <| s_region <| s_val rfl rfl rfl rfl <| s_val rfl rfl rfl rfl <| s_nil <| s_cond_f rfl <| s_seq <| s_region <| s_val rfl rfl rfl rfl <| s_val rfl rfl rfl rfl <| s_nil <| s_cond_f rfl <| s_seq <| s_seq <| s_region <| s_val rfl rfl rfl rfl <| s_val rfl rfl rfl rfl <| s_nil <| s_cond_t rfl <| s_skip <| s_cond_t rfl <| s_seq <| s_region ?_
  iterate 3 refine s_val rfl rfl rfl rfl ?_
  refine s_nil <| s_ret ?_
  exact ⟨.inr rfl, _, rfl, rfl, rfl⟩
end
end Go.Dv.Us
