/- A part of the proof of InferUses, second form: for every input of bulk at most 1048576 the call returns true and the arguments read as they did. Its condition: that bulk. -/
import Derived.Test.YtanhfhjoeoinoaaGreatDoorU23
/- cyclic. -/
namespace Go.Dv.Us
open Go.Dv.K Go.Proofs
/-- What holds between the rounds of cyclic. -/
structure CI (h0 h : Hp) (s : Nat) (S : Store) (p : At) (mp : Nat) (m : List (Nat × Nat)) (w : List (Nat × Nat)) (vw : AV) : Prop where
 hS : StoreAt h s S p
 fr : Ext h0 h
 hm : h.get mp = some (.map (ents (fun z : Nat => vint z) m))
 sk : StkAt h 2 vw w.length (prs w.reverse)
 nm : mp ∉ vw.own
 n1 : h0.next ≤ mp
 n2 : ∀ id ∈ vw.own, h0.next ≤ id
 ml : mp < h.next
 ok : ∀ q ∈ w, q.1 < S.nodes.length ∧ q.2 ≤ (S.form q.1).args.length
 base : ∀ id ∈ p.own s, id < h0.next
section
variable {h0 h h' : Hp} {s : Nat} {S : Store} {p : At} {mp : Nat} {m m' : List (Nat × Nat)} {w : List (Nat × Nat)} {vw v' : AV} {a b i z id : Nat} {ob : Obj}
theorem CI.notOwn (C : CI h0 h s S p mp m w vw) (hi : h0.next ≤ id) : id ∉ p.own s := fun h1 => by have := C.base id h1; omega
theorem CI.setTop (C : CI h0 h s S p mp m ((a, i) :: w) vw) (hv : vw.own = [id]) (hsk : StkAt (h.set id ob) 2 vw (w.length + 1) (prs ((a, z) :: w).reverse)) (hz : z ≤ (S.form a).args.length) : CI h0 (h.set id ob) s S p mp m ((a, z) :: w) vw := by
 have hi : h0.next ≤ id := C.n2 id (by rw [hv]; simp)
 refine { C with hS := C.hS.keep (Nat.le_refl _) fun j h1 => Hp.get_set_ne fun h2 => C.notOwn hi (by rw [← h2]; exact h1), fr := C.fr.set hi, hm := ?_, sk := hsk, ok := fun q hq => ?_ }
 ·rw [Hp.get_set_ne (fun h1 => C.nm (by rw [hv, h1]; simp))]; exact C.hm
 ·rcases List.mem_cons.1 hq with h1 | h1
  ·subst h1; exact ⟨(C.ok (a, i) (by simp)).1, hz⟩
  ·exact C.ok q (by simp [h1])
theorem CI.mapSet (C : CI h0 h s S p mp m w vw) : CI h0 (h.set mp (.map (ents (fun z : Nat => vint z) m'))) s S p mp m' w vw :=
 { C with
  hS := C.hS.keep (Nat.le_refl _) fun j h1 => Hp.get_set_ne fun h2 => C.notOwn C.n1 (by rw [← h2]; exact h1)
  fr := C.fr.set C.n1
  hm := Hp.get_set_eq
  sk := C.sk.keep (Nat.le_refl _) fun j h1 => Hp.get_set_ne fun h2 => C.nm (by rw [← h2]; exact h1) }
theorem CI.popped (C : CI h0 h s S p mp m ((a, i) :: w) vw) (hs : StkAt h 2 v' w.length ((prs ((a, i) :: w).reverse).take (w.length * 2))) (ho : v'.own = vw.own) : CI h0 h s S p mp m w v' := by
 have he : (prs (w.reverse ++ [(a, i)])).take (w.length * 2) = prs w.reverse := by
  rw [prs_append, List.take_append_of_le_length (by rw [prs_length]; simp), List.take_of_length_le (by rw [prs_length]; simp)]
 rw [List.reverse_cons, he] at hs
 exact { C with sk := hs, nm := by rw [ho]; exact C.nm, n2 := by rw [ho]; exact C.n2, ok := fun q hq => C.ok q (by simp [hq]) }
theorem CI.pushed (C : CI h0 h s S p mp m w vw) (P : Pushed h vw 2 (w.length + 1) (prs w.reverse ++ [vint b, vint (0 : Nat)]) h' v') (hb : b < S.nodes.length) : CI h0 h' s S p mp m ((b, 0) :: w) v' := by
 refine { C with hS := C.hS.keep (Nat.le_of_eq P.next) fun j h1 => P.keep j fun h2 => C.notOwn (C.n2 j h2) h1, fr := ⟨Nat.le_trans C.fr.next (Nat.le_of_eq P.next), fun j h1 => ?_⟩, hm := ?_, sk := ?_, nm := by rw [P.own]; exact C.nm, n2 := by rw [P.own]; exact C.n2, ml := by rw [← P.next]; exact C.ml, ok := fun q hq => ?_ }
 ·rw [P.keep j (fun h2 => by have := C.n2 j h2; omega)]; exact C.fr.keep j h1
 ·rw [P.keep mp C.nm]; exact C.hm
 ·rw [List.reverse_cons, prs_append]; exact P.stk
 ·rcases List.mem_cons.1 hq with h1 | h1
  ·subst h1; exact ⟨hb, Nat.zero_le _⟩
  ·exact C.ok q h1
end
structure CIx where
 k : Nat
 m : List (Nat × Nat)
 w : List (Nat × Nat)
 vw : AV
 h : Hp
theorem cyclic_ret {k : Nat} {h : Hp} {s : Nat} {S : Store} {p : At} (hS : StoreAt h s S p) (hw : Wf S) {n : Nat} (hn : n < S.nodes.length) {res : Bool} (hk0 : k ≤ 2 ^ 25) (hres : S.cyc k n = some res) :
  Ret ctx Or Xo 70 [.ptr s 0 0, vint n] h (fun v h' => v = vbool res ∧ Ext h h') := by
 refine body (env := [(0, .ptr s 0 0), (1, vint n)]) (rs := [.tmp 4]) Tryz.func70 rfl rfl Tryz.ntmps70 rfl rfl ?_
 have hlt := hS.toRows4.olt
 refine s_seq <| s_region <| s_val rfl rfl rfl rfl <| s_nil <| s_seq <| s_region ?_
 refine s_newMap rfl rfl rfl rfl ?_
 refine s_val rfl rfl rfl rfl <| s_nil ?_
 have e1 : Ext h (h.alloc (.map [])) := Ext.alloc ..
 refine s_seq <| s_region <| s_val rfl rfl rfl rfl <| s_val rfl rfl rfl rfl ?_
 refine s_ret1 (find_ret (hS.ext e1) hw n hn) rfl rfl rfl rfl ?_
 rintro _ h1 ⟨rfl, he1⟩
 refine s_val rfl rfl rfl rfl <| s_nil ?_
 have g1 : h1.get h.next = some (.map (ents (fun z : Nat => vint z) [])) := by rw [he1, Hp.get_alloc, if_pos rfl]; rfl
 have e1' : Ext h h1 := by rw [he1]; exact e1
 have n1 : h1.next = h.next + 1 := by rw [he1]; rfl
 refine s_seq <| s_region <| s_val rfl rfl rfl rfl <| s_val rfl rfl rfl rfl ?_
 refine s_setH rfl (o_mapUp (f := fun z : Nat => vint z) (v := 1) rfl rfl rfl rfl rfl rfl rfl g1 rfl) rfl ?_
 refine s_nil <| s_seq <| s_region <| s_val rfl rfl rfl rfl <| s_val rfl rfl rfl rfl ?_
 refine s_newCells rfl rfl rfl rfl ?_
 refine s_val rfl rfl rfl rfl <| s_nil <| s_seq <| s_block ?_
 have C0 : CI h (((h1.set h.next (.map (ents (fun z : Nat => vint z) (putN [] (S.find n) 1)))).newC (prs [(S.find n, 0)]) 214)) s S p h.next (putN [] (S.find n) 1) [(S.find n, 0)] (.msl (h.next + 1) 0 1 0 2) := by
  have e2 : Ext h ((h1.set h.next (.map (ents (fun z : Nat => vint z) (putN [] (S.find n) 1)))).newC (prs [(S.find n, 0)]) 214) := (e1'.set (Nat.le_refl _)).trans (Ext.newC ..)
  refine ⟨hS.ext e2, e2, ?_, ?_, fun h2 => ?_, Nat.le_refl _, fun id h2 => ?_, ?_, fun q hq => ?_, hlt⟩
  ·rw [Hp.get_newC, if_neg (by rw [Hp.next_set]; omega)]; exact Hp.get_set_eq
  ·exact .of (by rw [Hp.get_newC, Hp.next_set, if_pos n1.symm]; rfl) rfl (by rw [Hp.next_newC, Hp.next_set]; omega)
  ·simp [AV.own] at h2
  ·simp [AV.own] at h2; omega
  ·rw [Hp.next_newC, Hp.next_set]; omega
  ·simp at hq; subst hq; exact ⟨find_lt hw hn, Nat.zero_le _⟩
 refine s_rounds (ι := CIx) (fun i => ⟨[(0, .ptr s 0 0), (5, .map h.next), (6, i.vw)], [], i.h⟩) (fun i => CI h i.h s S p h.next i.m i.w i.vw ∧ S.cycF i.k i.m i.w = some res ∧ i.w.length + i.k ≤ k + 1) (fun i => i.k) ?_ ⟨k, putN [] (S.find n) 1, [(S.find n, 0)], .msl (h.next + 1) 0 1 0 2, _⟩ ⟨C0, hres, by simp only [List.length_cons, List.length_nil]; omega⟩ ⟨⟨rfl, rfl, ?_, trivial⟩, trivial, ?_⟩
 ·skip
  rintro ⟨k', m, w, vw, h3⟩ ⟨C, hr, hsz⟩
  simp only at C hr hsz
  cases k' with
  | zero => cases hr
  | succ k' =>
  refine s_seq <| s_seq <| s_region <| s_val rfl rfl rfl rfl ?_
  refine s_val rfl (o_lenV rfl rfl (args1 rfl C.sk.isL) rfl (C.sk.lenKind rfl) C.sk.lenA_eq) rfl rfl ?_
  refine s_val rfl rfl rfl rfl <| s_nil ?_
  cases w with
  | nil =>
   refine s_cond_f rfl ?_
   refine s_exit ?_
   refine s_seq <| s_region <| s_val rfl rfl rfl rfl <| s_nil <| s_ret ?_
   simp only [Store.cycF, Option.some.injEq] at hr
   subst hr
   exact ⟨.inr rfl, _, rfl, rfl, C.fr⟩
  | cons q w =>
   obtain ⟨a, i⟩ := q
   obtain ⟨ha, hia⟩ := C.ok (a, i) (by simp)
   simp only at ha hia
   obtain ⟨idw, ver, full, hvw, hg, hf1, hf2, hst⟩ := StkTop C.sk
   subst hvw
   have hgt : decide ((((a, i) :: w).length : Int) > 0) = true := decide_eq_true (by simp)
   have hsub : vint (IntKind.i64.wrap ((((a, i) :: w).length : Int) - 1)) = vint (w.length : Nat) := by
    simp only [List.length_cons] at hsz ⊢
    rw [wrap_id (by omega) (by omega)]
    congr 1
    push_cast
    omega
   have hlt1 : (w.length : Int) < ((w.length + 1 : Nat) : Int) := by omega
   refine s_cond_t (congrArg (fun t => some (vbool t)) hgt) ?_
   refine s_skip <| s_block <| s_seq <| s_region <| s_val rfl rfl rfl rfl <| s_val rfl rfl rfl rfl ?_
   refine s_val rfl (o_lenV rfl rfl (args1 rfl C.sk.isL) rfl (C.sk.lenKind rfl) C.sk.lenA_eq) rfl rfl ?_
   refine s_val rfl (o_eq rfl hsub) rfl rfl ?_
   refine s_val rfl (o_index rfl rfl rfl rfl rfl rfl (Int.natCast_nonneg _) hlt1) rfl rfl ?_
   refine s_val rfl rfl rfl rfl <| s_nil ?_
   have t1 : takeExact 1 (0 + ((w.length : Nat) : Int).toNat * 2 + 0) full = some [vint a] := by rw [show 0 + ((w.length : Nat) : Int).toNat * 2 + 0 = w.length * 2 by simp]; exact take1 hf1
   have t2 : takeExact 1 (0 + ((w.length : Nat) : Int).toNat * 2 + 1) full = some [vint i] := by rw [show 0 + ((w.length : Nat) : Int).toNat * 2 + 1 = w.length * 2 + 1 by simp]; exact take1 hf2
   have hra : ∀ H, RowN H (.d (S.form a).argsD) (S.form a).args := fun H => argsRow (hw.form_nil ha)
   refine s_seq <| s_region ?_
   iterate 4 refine s_val rfl rfl rfl rfl ?_
   refine s_val rfl (o_load rfl rfl rfl hg t1 rfl) rfl rfl ?_
   refine s_ret1 (form_ret C.hS hw a ha) rfl rfl rfl rfl ?_
   rintro _ h4 ⟨rfl, he4⟩
   subst he4
   refine s_val rfl rfl rfl rfl <| s_val rfl rfl rfl rfl <| s_nil <| s_seq <| s_seq <| s_region ?_
   iterate 3 refine s_val rfl rfl rfl rfl ?_
   refine s_val rfl (o_load rfl rfl rfl hg t2 rfl) rfl rfl ?_
   refine s_val rfl rfl rfl rfl ?_
   refine s_val rfl (o_lenV rfl rfl (args1 rfl (argsD_isL _)) rfl ((hra fun _ => none).lenKind rfl) (hra _).len) rfl rfl ?_
   refine s_val rfl (o_eq rfl (congrArg vbool (cast_beq i (S.form a).args.length))) rfl rfl ?_
   refine s_nil ?_
   simp only [Store.cycF] at hr
   refine s_if rfl (fun ht => ?_) (fun ht => ?_)
   ·have hil := of_decide_eq_true ht
    rw [if_pos hil] at hr
    obtain ⟨v5, hv5, sk5, ho5⟩ := C.sk.pop (C := ctx) (len := w.length) (t := 215) (e := 214) rfl rfl rfl
    refine s_seq <| s_region ?_
    iterate 4 refine s_val rfl rfl rfl rfl ?_
    refine s_val rfl (o_load rfl rfl rfl hg t1 rfl) rfl rfl ?_
    refine s_setH rfl (o_mapUp (f := fun z : Nat => vint z) (v := 2) rfl rfl rfl rfl rfl rfl rfl C.hm rfl) rfl ?_
    refine s_nil <| s_seq <| s_region <| s_val rfl rfl rfl rfl <| s_val rfl rfl rfl rfl ?_
    refine s_val rfl (o_lenV rfl rfl (args1 rfl C.sk.isL) rfl (C.sk.lenKind rfl) C.sk.lenA_eq) rfl rfl ?_
    refine s_val rfl (o_eq rfl hsub) rfl rfl ?_
    refine s_val rfl (o_sliceV rfl rfl rfl hv5) rfl rfl ?_
    refine s_val rfl rfl rfl rfl <| s_nil ?_
    refine s_exit ?_
    exact ⟨⟨k', putN m a 2, w, v5, _⟩, ⟨C.mapSet.popped (sk5.keep (Nat.le_refl _) fun j h1 => Hp.get_set_ne fun h2 => C.nm (by rw [← ho5, ← h2]; exact h1)) ho5, hr, by simp only [List.length_cons] at hsz ⊢; omega⟩, Nat.lt_succ_self k', ⟨rfl, rfl, rfl, trivial⟩, trivial, rfl⟩
   ·have hil := of_decide_eq_false ht
    rw [if_neg hil] at hr
    have hi : i < (S.form a).args.length := by omega
    have hof : 0 + ((w.length : Nat) : Int).toNat * 2 + 1 = w.length * 2 + 1 := by simp
    have hst' : ∀ z : Nat, StkAt (h4.set idw (.cells (putAt full (0 + ((w.length : Nat) : Int).toNat * 2 + 1) [vint z]) ver)) 2 (.msl idw 0 (w.length + 1) ver 2) (w.length + 1) (prs ((a, z) :: w).reverse) := fun z => by rw [hof]; exact hst z
    have hfl : 0 + ((w.length : Nat) : Int).toNat * 2 + 1 + 1 ≤ full.length := by rw [hof]; exact (List.getElem?_eq_some_iff.1 hf2).1
    have hag := hw.form_args ha _ (getD_mem hi)
    obtain ⟨q5, hq5, hq6⟩ := (hra h4.get).read (C := ctx) (L := lk []) hi (t := 72) (e := 3) rfl rfl rfl rfl
    refine s_skip <| s_seq <| s_region ?_
    iterate 5 refine s_val rfl rfl rfl rfl ?_
    refine s_val rfl (o_load rfl rfl rfl hg t2 rfl) rfl rfl ?_
    refine s_val rfl (o_indexV rfl rfl rfl hq5) rfl rfl ?_
    refine s_val rfl (o_loadV rfl rfl hq6) rfl rfl ?_
    refine s_ret1 (find_ret C.hS hw _ hag) rfl rfl rfl rfl ?_
    rintro _ h5 ⟨rfl, he5⟩
    subst he5
    refine s_val rfl rfl rfl rfl <| s_nil ?_
    generalize hb : S.find ((S.form a).args.getD i 0) = b at hr ⊢
    refine s_seq <| s_region ?_
    iterate 3 refine s_val rfl rfl rfl rfl ?_
    refine s_val rfl (o_load rfl rfl rfl hg t2 rfl) rfl rfl ?_
    refine s_val rfl (o_eq rfl (wrap_succ (by have := hw.form_len ha; omega))) rfl rfl ?_
    refine s_val rfl rfl rfl rfl <| s_val rfl rfl rfl rfl ?_
    refine s_setH rfl (o_store1 rfl rfl rfl rfl rfl rfl rfl rfl hg hfl) rfl ?_
    refine s_nil ?_
    have C6 := C.setTop (z := i + 1) rfl (hst' (i + 1)) hi
    have hbl : b < S.nodes.length := by rw [← hb]; exact find_lt hw hag
    have hlk : ∀ m : List (Nat × Nat), (((getN m b).map fun z : Nat => vint z).getD (vint (0 : Nat))) = vint ((getN m b).getD 0 : Nat) := fun m => by cases getN m b <;> rfl
    refine s_seq <| s_seq <| s_region <| s_val rfl rfl rfl rfl <| s_val rfl rfl rfl rfl ?_
    refine s_val rfl (o_eq (o_lookup (z := vint (0 : Nat)) rfl rfl rfl rfl rfl rfl C6.hm rfl) (hlk m)) rfl rfl ?_
    refine s_val rfl (o_eq rfl (congrArg vbool (cast_beq ((getN m b).getD 0) 1))) rfl rfl ?_
    refine s_nil ?_
    refine s_if rfl (fun hu => ?_) (fun hu => ?_)
    ·rw [if_pos (of_decide_eq_true hu)] at hr
     simp only [Option.some.injEq] at hr
     subst hr
     refine s_seq <| s_region <| s_val rfl rfl rfl rfl <| s_nil <| s_ret ?_
     exact ⟨.inr rfl, _, rfl, rfl, C6.fr⟩
    ·rw [if_neg (of_decide_eq_false hu)] at hr
     refine s_skip <| s_seq <| s_region <| s_val rfl rfl rfl rfl <| s_val rfl rfl rfl rfl ?_
     refine s_val rfl (o_eq (o_lookup (z := vint (0 : Nat)) rfl rfl rfl rfl rfl rfl C6.hm rfl) (hlk m)) rfl rfl ?_
     refine s_val rfl (o_eq rfl (congrArg vbool (cast_beq ((getN m b).getD 0) 0))) rfl rfl ?_
     refine s_nil ?_
     refine s_if rfl (fun hv => ?_) (fun hv => ?_)
     ·rw [if_pos (of_decide_eq_true hv)] at hr
      refine s_seq <| s_region <| s_val rfl rfl rfl rfl <| s_val rfl rfl rfl rfl ?_
      refine s_setH rfl (o_mapUp (f := fun z : Nat => vint z) (v := 1) rfl rfl rfl rfl rfl rfl rfl C6.hm rfl) rfl ?_
      refine s_nil ?_
      have C7 := C6.mapSet (m' := putN m b 1)
      refine s_region ?_
      iterate 4 refine s_val rfl rfl rfl rfl ?_
      refine s_push C7.sk rfl rfl rfl (args2 rfl C7.sk.isL rfl rfl) rfl rfl rfl rfl rfl rfl (by decide) rfl (new := [vint b, vint (0 : Nat)]) rfl rfl (by decide) rfl (by simp only [List.length_cons] at hsz ⊢; omega) rfl rfl ?_
      intro h8 v8 P8
      refine s_val rfl rfl rfl rfl <| s_nil ?_
      exact ⟨⟨k', putN m b 1, (b, 0) :: (a, i + 1) :: w, v8, h8⟩, ⟨C7.pushed P8 hbl, hr, by simp only [List.length_cons] at hsz ⊢; omega⟩, Nat.lt_succ_self k', ⟨rfl, rfl, rfl, trivial⟩, trivial, rfl⟩
     ·rw [if_neg (of_decide_eq_false hv)] at hr
      refine s_skip ?_
      exact ⟨⟨k', m, (a, i + 1) :: w, _, _⟩, ⟨C6, hr, by simp only [List.length_cons] at hsz ⊢; omega⟩, Nat.lt_succ_self k', ⟨rfl, rfl, rfl, trivial⟩, trivial, rfl⟩
 ·show some (AV.msl h1.next 0 1 0 2) = some (AV.msl (h.next + 1) 0 1 0 2)
  rw [n1]
 ·rfl
end Go.Dv.Us
/- Unify. -/
namespace Go.Dv.Us
open Go.Dv.K Go.Proofs
def UStep.lt (d : UStep) (n : Nat) : Prop := d.under < n ∧ d.over < n
theorem mergeF_nodes {free : Bool} : ∀ {k : Nat} {S : Store} {st : List UStep} {w : List (Nat × Nat)} {res : Store × List UStep × Bool}, Store.mergeF free k S st w = some res → Wf S → (∀ q ∈ w, q.1 < S.nodes.length ∧ q.2 < S.nodes.length) → (∀ d ∈ st, d.lt S.nodes.length) →
  res.1.nodes = S.nodes ∧ Wf res.1 ∧ ∀ d ∈ res.2.1, d.lt S.nodes.length
 | 0, _, _, _, _, h, _, _, _ => by cases h
 | k + 1, S, st, [], res, h, hw, _, hst => by
  simp only [Store.mergeF, Option.some.injEq] at h
  subst h
  exact ⟨rfl, hw, hst⟩
 | k + 1, S, st, (a, b) :: w, res, h, hw, hq, hst => by
  obtain ⟨ha, hb⟩ := hq (a, b) (by simp)
  have hx := find_lt hw ha
  have hy := find_lt hw hb
  have hux := find_root hw ha
  have huy := find_root hw hb
  have hq' : ∀ q ∈ w, q.1 < S.nodes.length ∧ q.2 < S.nodes.length := fun q h1 => hq q (by simp [h1])
  simp only [Store.mergeF] at h
  simp only at ha hb
  generalize S.find a = x at h hx hux
  generalize S.find b = y at h hy huy
  have hput : ∀ (w' : List (Nat × Nat)), x ≠ y → (∀ q ∈ w', q.1 < S.nodes.length ∧ q.2 < S.nodes.length) → Store.mergeF free k (S.put x y) (st ++ [S.putStep x y]) w' = some res →
    res.1.nodes = S.nodes ∧ Wf res.1 ∧ ∀ d ∈ res.2.1, d.lt S.nodes.length := fun w' hne hw' h1 => by
   have := mergeF_nodes h1 (hw.put hx hy hne hux huy) (by rw [Store.put_nodes]; exact hw') (by
    rw [Store.put_nodes]
    intro d hd
    rcases List.mem_append.1 hd with h2 | h2
    ·exact hst d h2
    ·simp at h2; subst h2; exact which_lt hx hy)
   rwa [Store.put_nodes] at this
  split at h
  ·exact mergeF_nodes h hw hq' hst
  ·rename_i hne
   split at h
   ·split at h
    ·exact hput w hne hq' h
    ·simp only [Option.some.injEq] at h; subst h; exact ⟨rfl, hw, hst⟩
   ·split at h
    ·simp only [Option.some.injEq] at h; subst h; exact ⟨rfl, hw, hst⟩
    ·refine hput _ hne (fun q h1 => ?_) h
     rcases List.mem_append.1 h1 with h2 | h2
     ·have h3 := List.of_mem_zip (List.mem_reverse.1 h2)
      exact ⟨hw.form_args hx _ h3.1, hw.form_args hy _ h3.2⟩
     ·exact hq' q h2
/-- Two nodes are made alike: the store, and the error's number. -/
def Store.unify (S : Store) (k a b : Nat) : Option (Store × Nat) :=
 match Store.mergeF true k S [] [(a, b)] with
 | none => none
 | some (S', _, false) => some (S', 131)
 | some (S', [], true) => some (S', 0)
 | some (S', _ :: _, true) => match S'.cyc k a with
  | none => none
  | some true => some (S', 130)
  | some false => some (S', 0)
end Go.Dv.Us
