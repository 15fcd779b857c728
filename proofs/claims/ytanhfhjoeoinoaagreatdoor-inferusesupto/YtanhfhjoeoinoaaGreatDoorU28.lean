/- A part of the proof of InferUses, second form: for every input of bulk at most 1048576 the call returns true and the arguments read as they did. Its condition: that bulk. -/
import Derived.Test.YtanhfhjoeoinoaaGreatDoorU27
/- Types. -/
namespace Go.Dv.Us
open Go.Dv.K Go.Proofs
theorem vars73_ret {h : Hp} {s : Nat} {v : AV} (hv : v.isCell = true) (hL : v.isL = false) (hc : v.cells = [v]) :
  Ret ctx Or Xo 73 [.ptr s 0 0, v] h (fun w h' => w = .clo 127 [] [.ptr (h.next + 1) 0 0, .ptr h.next 0 0] ∧ h' = (h.newV [.ptr s 0 0] 58).newV [v] 72) := by
 refine body (env := [(0, .ptr s 0 0), (1, v)]) (rs := [.tmp 4]) Tryz.func73 rfl rfl Tryz.ntmps73 rfl rfl ?_
 refine s_seq <| s_region ?_
 refine s_newVar rfl rfl rfl rfl ?_
 refine s_newVar rfl (o_boxH rfl rfl rfl rfl hc hL hv rfl rfl) rfl rfl ?_
 refine s_val rfl rfl rfl rfl <| s_nil <| s_seq <| s_region <| s_val rfl rfl rfl rfl <| s_val rfl rfl rfl rfl <| s_nil <| s_ret ?_
 exact ⟨.inr rfl, _, rfl, rfl, rfl⟩
/-- Variables' numbers. -/
def numsOf (l : List Nat) : List (Nat × Nat) := l.zipIdx
theorem getN_nums : ∀ {l : List Nat} {k v : Nat}, v ∈ l → getN (l.zipIdx k) v = some (idx l v + k)
 | a :: l, k, v, h => by
  simp only [List.zipIdx_cons, getN, idx, List.idxOf_cons]
  by_cases hav : a = v
  ·subst hav; simp
  ·rw [if_neg hav]
   have h1 : v ∈ l := by
    rcases List.mem_cons.1 h with h2 | h2
    ·exact absurd h2.symm hav
    ·exact h2
   rw [getN_nums h1, beq_false_of_ne hav, cond_false]
   unfold idx
   congr 1; omega
theorem vnum_nums {l : List Nat} {v : Nat} (h : v ∈ l) : vnum (numsOf l) v = idx l v := by
 unfold vnum numsOf
 rw [getN_nums h]; rfl
theorem putN_nums : ∀ {l : List Nat} {k v : Nat}, v ∉ l → putN (l.zipIdx k) v (l.length + k) = (l ++ [v]).zipIdx k
 | [], k, v, _ => by simp [putN]
 | a :: l, k, v, h => by
  have h1 : a ≠ v := fun h2 => h (by simp [h2])
  have h2 : v ∉ l := fun h3 => h (by simp [h3])
  simp only [List.zipIdx_cons, putN, if_neg h1, List.cons_append]
  congr 1
  have := putN_nums (l := l) (k := k + 1) h2
  rw [← this]
  congr 1
  simp only [List.length_cons]; omega
theorem addVs_nodup : ∀ {vs l : List Nat}, l.Nodup → (addVs l vs).Nodup
 | [], _, h => h
 | v :: vs, l, h => by
  refine addVs_nodup (vs := vs) (l := addV l v) ?_
  unfold addV
  split
  ·exact h
  ·rename_i hv
   rw [List.nodup_append]
   exact ⟨h, by simp, fun a ha b hb hab => by simp at hb; subst hb; subst hab; exact hv ha⟩
/-- What holds while the variables are numbered. -/
structure TJ (h0 : Hp) (s : Nat) (S : Store) (p : At) (mp bm bs bx y : Nat) (v : AV) (az ys : List Nat) (rec : LoopR) (i : Nat) (h : Hp) : Prop where
 hS : StoreAt h s S p
 fr : Ext h0 h
 gm : h.get bm = some (.cells [.map mp] 0)
 hm : h.get mp = some (.map (ents (fun z : Nat => vint z) (numsOf (ys.take i))))
 gs : h.get bs = some (.cells [.ptr s 0 0] 0)
 gx : h.get bx = some (.cells [v] 0)
 row : RowN h.get v az
 gy : h.get y = some (.loop rec)
theorem _root_.Go.Dv.RowN.keep {H H' : Nat → Option Obj} {v : AV} {l : List Nat} (r : RowN H v l) (hk : ∀ id ∈ v.own, H' id = H id) : RowN H' v l := by
 cases r with
 | nil => exact .nil
 | imm => exact .imm
 | row hg hc => exact .row ((hk _ (by simp [AV.own])).trans hg) hc
theorem TJ.keep {h0 h h' : Hp} {s : Nat} {S : Store} {p : At} {mp bm bs bx y : Nat} {v : AV} {az ys : List Nat} {rec : LoopR} {i : Nat} (B : TJ h0 s S p mp bm bs bx y v az ys rec i h) (hn : h.next ≤ h'.next) {b : Nat} (hk : ∀ id, id < b → h'.get id = h.get id)
  (n1 : h0.next ≤ b) (n2 : ∀ id ∈ p.own s, id < b) (n3 : mp < b) (n4 : bm < b) (n5 : bs < b) (n6 : bx < b) (n7 : y < b) (n8 : ∀ id ∈ v.own, id < b) : TJ h0 s S p mp bm bs bx y v az ys rec i h' :=
 ⟨B.hS.keep hn fun id h1 => hk id (n2 id h1), ⟨Nat.le_trans B.fr.next hn, fun id h1 => (hk id (by omega)).trans (B.fr.keep id h1)⟩, (hk _ n4).trans B.gm, (hk _ n3).trans B.hm, (hk _ n5).trans B.gs, (hk _ n6).trans B.gx, B.row.keep fun id h1 => hk id (n8 id h1), (hk _ n7).trans B.gy⟩
structure IHx where
 i : Nat
 h : Hp
theorem numsOf_len (l : List Nat) : (numsOf l).length = l.length := by simp [numsOf]
theorem types_ret {h : Hp} {s : Nat} {S : Store} {p : At} (hS : StoreAt h s S p) (hw : Wf S) (nok : ∀ n, n < S.nodes.length → (S.form n).kind = 1 → (S.form n).args = []) {v : AV} {az : List Nat} (hv : RowN h.get v az) (hvc : v.isCell = true ∧ v.cells = [v]) (hvo : ∀ id ∈ v.own, id < h.next) (hlen : az.length ≤ 2 ^ 20)
  {ts : List Ty} (hd : Dens S az ts) (hsz : ∀ t ∈ ts, t.size ≤ 300) :
  Ret ctx Or Xo 33 [.ptr s 0 0, v] h (fun w h' => w = .tuple [.d (rowD ts.isEmpty ts.length (Ty.cellsL (ts.map (Ty.rename (idx (addVs [] (Ty.varsL ts))))))), vint 0] ∧ Ext h h') := by
 refine body (env := [(0, .ptr s 0 0), (1, v)]) (rs := [.tmp 4, .tmp 5]) Tryz.func33 rfl rfl Tryz.ntmps33 rfl rfl ?_
 have hvL := hv.isL
 have hlt := hS.toRows4.olt
 have haz : ∀ n ∈ az, n < S.nodes.length := fun n hn => by
  obtain ⟨i, hi, he⟩ := List.getElem_of_mem hn
  have := (hd.2 i hi).1
  rw [List.getD_eq_getElem?_getD, List.getElem?_eq_getElem hi, he] at this
  exact this
 refine s_seq <| s_region <| s_val rfl rfl rfl rfl <| s_val rfl rfl rfl rfl <| s_nil <| s_seq <| s_seq <| s_region <| s_val rfl rfl rfl rfl <| s_val rfl rfl rfl rfl ?_
 refine s_ret1 (known_ret hS hv (by omega)) rfl (c_val rfl rfl rfl (args2 rfl rfl rfl hvL)) rfl rfl ?_
 rintro _ h1 ⟨rfl, he1⟩
 subst he1
 rw [all_known haz]
 refine s_val rfl rfl rfl rfl <| s_nil <| s_cond_f rfl <| s_skip <| s_seq <| s_seq <| s_region <| s_val rfl rfl rfl rfl ?_
 refine s_val rfl (o_lenV rfl rfl (args1 rfl hv.isL) rfl (hv.lenKind rfl) hv.len) rfl rfl ?_
 refine s_val rfl rfl rfl rfl <| s_nil <| s_block ?_
 refine s_rounds (ι := IHx) (fun i => ⟨[(0, .ptr s 0 0), (1, v), (17, v), (18, vint az.length), (19, vint i.i)], [], i.h⟩) (fun i => i.i ≤ az.length ∧ Ext h1 i.h) (fun i => az.length - i.i) ?_ ⟨0, h1⟩ ⟨Nat.zero_le _, Ext.refl _⟩ ⟨⟨rfl, rfl, rfl, rfl, rfl, trivial⟩, trivial, rfl⟩
 rintro ⟨i, h2⟩ ⟨hi, he⟩
 simp only at hi he
 have hv2 : RowN h2.get v az := hv.keep fun id h3 => he.keep id (hvo id h3)
 refine s_seq <| s_region <| s_val rfl rfl rfl rfl <| s_nil <| s_seq ?_
 by_cases hil : i < az.length
 ·have hlt1 : decide ((i : Int) < (az.length : Nat)) = true := decide_eq_true (Int.ofNat_lt.2 hil)
  refine s_cond_t (congrArg (fun t => some (vbool t)) hlt1) ?_
  obtain ⟨q, hq1, hq2⟩ := hv2.read (C := ctx) (L := lk []) hil (t := 72) (e := 3) rfl rfl rfl rfl
  have hti : i < ts.length := by rw [hd.1]; exact hil
  have hle := hsz _ (getD_mem' hti)
  refine s_skip <| s_seq <| s_block <| s_seq <| s_region ?_
  refine s_val rfl (o_indexV rfl rfl rfl hq1) rfl rfl ?_
  refine s_val rfl (o_loadV rfl rfl hq2) rfl rfl ?_
  refine s_val rfl rfl rfl rfl <| s_nil <| s_seq <| s_region <| s_val rfl rfl rfl rfl <| s_val rfl rfl rfl rfl ?_
  refine s_ret1 (size_ret (hS.ext he) hw nok (hd.2 i hil).1 (hd.2 i hil).2) rfl rfl rfl rfl ?_
  rintro _ h3 ⟨rfl, he3⟩
  have hs3 : size301 (ts.getD i default).size = (ts.getD i default).size := by unfold size301; rw [if_pos hle]
  rw [hs3]
  have hgt : decide ((((ts.getD i default).size : Nat) : Int) > 300) = false := decide_eq_false (by omega)
  refine s_val rfl (o_eq rfl (congrArg vbool hgt)) rfl rfl ?_
  refine s_nil <| s_cond_f rfl <| s_skip <| s_region ?_
  refine s_val rfl (o_eq rfl (wrap_succ (n := i) (by omega))) rfl rfl ?_
  refine s_val rfl rfl rfl rfl <| s_nil ?_
  exact ⟨⟨i + 1, h3⟩, ⟨hil, he.trans he3⟩, by simp only; omega, ⟨rfl, rfl, rfl, rfl, rfl, trivial⟩, trivial, rfl⟩
 ·have hlt1 : decide ((i : Int) < (az.length : Nat)) = false := decide_eq_false (fun h => hil (Int.ofNat_lt.1 h))
  refine s_cond_f (congrArg (fun t => some (vbool t)) hlt1) ?_
  refine s_exit ?_
  refine s_seq <| s_region ?_
  refine s_newMap rfl rfl rfl rfl ?_
  refine s_newVar rfl rfl rfl rfl ?_
  refine s_setH rfl (o_store1 rfl rfl rfl rfl rfl rfl rfl rfl (if_pos rfl) (Nat.le_of_ble_eq_true rfl)) rfl ?_
  refine s_nil ?_
  obtain ⟨k, m', hdfs⟩ := dfs_den hw nok hd.1.symm haz (fun i hi => (hd.2 i (by rw [← hd.1]; exact hi)).2)
  generalize hys : addVs [] (Ty.varsL ts) = ys at hdfs ⊢
  have hnd : ys.Nodup := by rw [← hys]; exact addVs_nodup List.nodup_nil
  refine s_seq <| s_seq <| s_region <| s_val rfl rfl rfl rfl <| s_val rfl rfl rfl rfl ?_
  refine s_ret1 (vars73_ret hvc.1 hvL hvc.2) rfl (c_val rfl rfl rfl (args2 rfl rfl rfl hvL)) rfl rfl ?_
  rintro _ h4 ⟨rfl, he4⟩
  have hl4 : h4.next = h2.next + 4 := by rw [he4]; rfl
  have g4 : ∀ id, id < h2.next → h4.get id = h2.get id := fun id h5 => by
   rw [he4, Hp.get_newV, if_neg (by show id ≠ h2.next + 2 + 1; omega), Hp.get_newV, if_neg (by show id ≠ h2.next + 2; omega), Hp.get_set_ne (by show id ≠ h2.next + 1; omega), Hp.get_newV, if_neg (by show id ≠ h2.next + 1; omega), Hp.get_alloc, if_neg (by show id ≠ h2.next; omega)]
  have gmp : h4.get h2.next = some (.map []) := by
   rw [he4, Hp.get_newV, if_neg (by show h2.next ≠ h2.next + 2 + 1; omega), Hp.get_newV, if_neg (by show h2.next ≠ h2.next + 2; omega), Hp.get_set_ne (by show h2.next ≠ h2.next + 1; omega), Hp.get_newV, if_neg (by show h2.next ≠ h2.next + 1; omega), Hp.get_alloc, if_pos rfl]
  have gbm : h4.get (h2.next + 1) = some (.cells [.map h2.next] 0) := by
   rw [he4, Hp.get_newV, if_neg (by show h2.next + 1 ≠ h2.next + 2 + 1; omega), Hp.get_newV, if_neg (by show h2.next + 1 ≠ h2.next + 2; omega)]
   exact Hp.get_set_eq
  have gbs : h4.get (h2.next + 2) = some (.cells [.ptr s 0 0] 0) := by
   rw [he4, Hp.get_newV, if_neg (by show h2.next + 2 ≠ h2.next + 2 + 1; omega), Hp.get_newV]
   exact if_pos rfl
  have gbx : h4.get (h2.next + 3) = some (.cells [v] 0) := by
   rw [he4, Hp.get_newV]
   exact if_pos rfl
  refine s_nil <| s_block ?_
  have hi' := he.next
  refine s_rangeR (ke := [(8, .ptr (h2.next + 1) 0 0)]) (R := fun rec _ hh => TJ h1 s S p h2.next (h2.next + 1) (h2.next + 2) (h2.next + 3) (h2.next + 4) v az ys rec ys.length hh ∧ h4.next + 1 ≤ hh.next) rfl rfl rfl ⟨rfl, trivial⟩ rfl ?_ ?_
  ·intro rec hrec
   have e5 : Ext h1 (h4.alloc (.loop rec)) := ⟨by rw [Hp.next_alloc]; omega, fun id h5 => by rw [Hp.get_alloc, if_neg (by omega), g4 id (by omega)]; exact he.keep id h5⟩
   have A : Asks S s p (h2.next + 4) (h2.next + 3) (h2.next + 2) (h2.next + 5) v az ys (TJ h1 s S p h2.next (h2.next + 1) (h2.next + 2) (h2.next + 3) (h2.next + 4) v az ys rec) := by
    refine ⟨fun i h B => B.hS, fun i h B => B.gs, fun i h B => B.gx, fun i h B => B.row, fun i h h' B hn hk => ?_, fun i hh n hyn B hb => ?_⟩
    ·exact B.keep hn hk (by omega) (fun id h5 => by have := hlt id h5; omega) (by omega) (by omega) (by omega) (by omega) (by omega) (fun id h5 => by have := hvo id h5; omega)
    ·subst hrec
     refine yld_of B.gy rfl ?_
     refine s_region <| s_val rfl rfl rfl rfl <| s_nil ?_
     refine ⟨rfl, _, B.gy, rfl, ?_⟩
     refine s_block ?_
     have g12 : ∀ ob, (hh.set (h2.next + 4) ob).get (h2.next + 1) = some (.cells [.map h2.next] 0) := fun ob => (Hp.get_set_ne (by omega)).trans B.gm
     have m12 : ∀ ob, (hh.set (h2.next + 4) ob).get h2.next = some (.map (ents (fun z : Nat => vint z) (numsOf (ys.take i)))) := fun ob => (Hp.get_set_ne (by omega)).trans B.hm
     have hil : i < ys.length := (List.getElem?_eq_some_iff.1 hyn).1
     refine s_region ?_
     refine s_val rfl (o_load rfl rfl rfl (g12 _) rfl rfl) rfl rfl ?_
     refine s_val rfl rfl rfl rfl ?_
     refine s_val rfl (o_load rfl rfl rfl (g12 _) rfl rfl) rfl rfl ?_
     refine s_val rfl (o_lenV rfl rfl (args1 rfl rfl) rfl rfl (n := i) (by show (match (hh.set (h2.next + 4) _).get h2.next with | some (.map es) => some es.length | _ => none) = _; rw [m12]; simp [ents, numsOf]; omega)) rfl rfl ?_
     refine s_setH rfl (o_mapUp (f := fun z : Nat => vint z) (v := i) rfl rfl rfl rfl rfl rfl rfl (m12 _) rfl) rfl ?_
     refine s_nil ?_
     refine ⟨_, (Hp.get_set_ne (by omega)).trans Hp.get_set_eq, rfl, ?_, Nat.le_refl _, fun id h5 h6 => ?_⟩
     ·have hnums : putN (numsOf (ys.take i)) n i = numsOf (ys.take (i + 1)) := by
       have h5 : n ∉ ys.take i := fun h6 => by
        obtain ⟨j, hj, he⟩ := List.getElem_of_mem h6
        rw [List.length_take] at hj
        have h7 : ys[j]? = some n := by rw [List.getElem_take] at he; rw [List.getElem?_eq_getElem (by omega), he]
        have := (List.getElem?_inj (by omega) hnd).1 (h7.trans hyn.symm)
        omega
       have h6 := putN_nums (k := 0) h5
       rw [List.length_take, Nat.min_eq_left (by omega)] at h6
       unfold numsOf
       rw [List.take_add_one, hyn]
       exact h6
      have hk : ∀ (ob1 ob2 ob3 : Obj) id, id ≠ h2.next + 4 → id ≠ h2.next → (((hh.set (h2.next + 4) ob1).set h2.next ob2).set (h2.next + 4) ob3).get id = hh.get id := fun ob1 ob2 ob3 id h5 h6 => by
       rw [Hp.get_set_ne h5, Hp.get_set_ne h6, Hp.get_set_ne h5]
      refine ⟨B.hS.keep (Nat.le_refl _) fun id h5 => hk _ _ _ id ?_ ?_, ⟨B.fr.next, fun id h5 => (hk _ _ _ id (by omega) (by omega)).trans (B.fr.keep id h5)⟩, (hk _ _ _ _ (by omega) (by omega)).trans B.gm, ?_, (hk _ _ _ _ (by omega) (by omega)).trans B.gs, (hk _ _ _ _ (by omega) (by omega)).trans B.gx, B.row.keep fun id h5 => hk _ _ _ id ?_ ?_, Hp.get_set_eq⟩
      ·have := hlt id h5; omega
      ·have := hlt id h5; omega
      ·rw [Hp.get_set_ne (by omega), Hp.get_set_eq, hnums]
      ·have := hvo id h5; omega
      ·have := hvo id h5; omega
     ·rw [Hp.get_set_ne (by omega), Hp.get_set_ne (by omega), Hp.get_set_ne (by omega)]
   rw [hl4]
   refine (vars127_run hw A haz hlen hdfs ?_ (by rw [Hp.next_alloc]; omega)).mono fun _ hh hJ => ⟨hJ.1, by have h5 := hJ.2; rw [Hp.next_alloc] at h5; omega⟩
   refine ⟨hS.ext e5, e5, ?_, ?_, ?_, ?_, hv.keep fun id h5 => e5.keep id (hvo id h5), ?_⟩
   ·rw [Hp.get_alloc, if_neg (by omega)]; exact gbm
   ·rw [Hp.get_alloc, if_neg (by omega)]; exact gmp
   ·rw [Hp.get_alloc, if_neg (by omega)]; exact gbs
   ·rw [Hp.get_alloc, if_neg (by omega)]; exact gbx
   ·rw [Hp.get_alloc, if_pos hl4.symm]
  ·rintro rec _ h6 ⟨B, hn6⟩ hrec
   rw [hl4]
   refine ⟨rec, .normal, B.gy, by rw [hrec]; simp [loopOf], by rw [hrec]; rfl, ?_⟩
   have hdel : ∀ id, id ≠ h2.next + 4 → (h6.del (h2.next + 4)).get id = h6.get id := fun id h7 => if_neg h7
   have hS6 : StoreAt (h6.del (h2.next + 4)) s S p := B.hS.keep (Nat.le_refl _) fun id h7 => hdel id (by have := hlt id h7; omega)
   have hm6 : (h6.del (h2.next + 4)).get h2.next = some (.map (ents (fun z : Nat => vint z) (numsOf ys))) := by
    rw [hdel _ (by omega)]
    have := B.hm
    rwa [List.take_length] at this
   have gm6 : (h6.del (h2.next + 4)).get (h2.next + 1) = some (.cells [.map h2.next] 0) := (hdel _ (by omega)).trans B.gm
   have fr6 : Ext h1 (h6.del (h2.next + 4)) := B.fr.del (by omega)
   have hl6 : h2.next + 5 ≤ (h6.del (h2.next + 4)).next := by show _ ≤ h6.next; omega
   have hv6 : RowN (h6.del (h2.next + 4)).get v az := hv.keep fun id h7 => fr6.keep id (hvo id h7)
   generalize h6.del (h2.next + 4) = h7 at hS6 hm6 gm6 fr6 hl6 hv6
   refine s_seq <| s_region <| s_val rfl rfl rfl rfl <| s_nil <| s_seq <| s_seq <| s_region <| s_val rfl rfl rfl rfl ?_
   refine s_val rfl (o_lenV rfl rfl (args1 rfl hv6.isL) rfl (hv6.lenKind rfl) hv6.len) rfl rfl ?_
   refine s_val rfl rfl rfl rfl <| s_nil <| s_block ?_
   refine s_rounds (ι := TLx) (fun i => ⟨[(0, .ptr s 0 0), (8, .ptr (h2.next + 1) 0 0), (10, i.v), (37, v), (38, vint az.length), (39, vint i.i)], [], i.h⟩) (fun i => i.i ≤ az.length ∧ TL i.h i.v ((ts.map (Ty.rename (idx ys))).take i.i) ∧ Ext h7 i.h ∧ ∀ id ∈ i.v.own, h7.next ≤ id) (fun i => az.length - i.i) ?_ ⟨0, .d .nilslice, h7⟩ ⟨Nat.zero_le _, ⟨.nil, rfl⟩, Ext.refl _, fun id h1 => by simp [AV.own] at h1⟩ ⟨⟨rfl, rfl, rfl, rfl, rfl, rfl, trivial⟩, trivial, rfl⟩
   rintro ⟨i, lv, h8⟩ ⟨hi8, hv8, he8, ho8⟩
   simp only at hi8 hv8 he8 ho8
   have hcell := hv8.row.cell
   have hrow8 : RowN h8.get v az := hv6.keep fun id h9 => he8.keep id (by have := hvo id h9; omega)
   refine s_seq <| s_region <| s_val rfl rfl rfl rfl <| s_nil <| s_seq ?_
   by_cases hil : i < az.length
   ·have hlt1 : decide ((i : Int) < (az.length : Nat)) = true := decide_eq_true (Int.ofNat_lt.2 hil)
    refine s_cond_t (congrArg (fun t => some (vbool t)) hlt1) ?_
    obtain ⟨q, hq1, hq2⟩ := hrow8.read (C := ctx) (L := lk []) hil (t := 72) (e := 3) rfl rfl rfl rfl
    have hti : i < ts.length := by rw [hd.1]; exact hil
    refine s_skip <| s_seq <| s_block <| s_seq <| s_region ?_
    refine s_val rfl (o_indexV rfl rfl rfl hq1) rfl rfl ?_
    refine s_val rfl (o_loadV rfl rfl hq2) rfl rfl ?_
    refine s_val rfl rfl rfl rfl <| s_nil <| s_region ?_
    iterate 3 refine s_val rfl rfl rfl rfl ?_
    refine s_val rfl (o_load rfl rfl rfl ((he8.keep _ (by omega)).trans gm6) rfl rfl) rfl rfl ?_
    refine s_ret1 (told_ret hw (hd.2 i hil).2 (hd.2 i hil).1 (hS6.ext he8) ((he8.keep _ (by omega)).trans hm6) (by have h9 : h7.next ≤ h8.next := he8.next; show _ < h8.next; omega)) rfl rfl rfl rfl ?_
    rintro _ h9 ⟨rfl, he9⟩
    have hv9 : TL h9 lv ((ts.map (Ty.rename (idx ys))).take i) := hv8.keep he9.next fun id h10 => he9.keep id (hv8.row.lt id h10)
    have hil3 : ((ts.map (Ty.rename (idx ys))).take i).length = i := by rw [List.length_take, List.length_map]; omega
    have hren : (ts.getD i default).rename (vnum (numsOf ys)) = (ts.getD i default).rename (idx ys) := Ty.rename_congr _ fun w hw9 => vnum_nums (by
     rw [← hys]
     exact mem_addVs.2 (.inr (Ty.mem_varsL.2 ⟨_, getD_mem' hti, hw9⟩)))
    rw [hren]
    refine s_val rfl (o_bs1 (cs := (Ty.rename (idx ys) (ts.getD i default)).cells) rfl rfl rfl rfl rfl rfl rfl (Ty.cells_length _) (Ty.cells_isCell _) rfl (by decide) rfl) rfl rfl ?_
    refine s_append hv9.row rfl rfl rfl (args2 rfl hcell.2.1 rfl rfl) rfl rfl rfl rfl rfl rfl (by decide) rfl (new := (Ty.rename (idx ys) (ts.getD i default)).cells.map .d) (by show _ = _; simp only [elemsOf]; rw [takeExact_all (by rw [Ty.cells_length])]) (Ty.cells_isCell _) (by decide) (by rw [List.length_map, Ty.cells_length]) (by decide) (by rw [hil3]; omega) rfl rfl ?_
    intro h10 v10 L10
    have hv10 := hv9.snoc L10
    have e10 : Ext h7 h10 := ⟨Nat.le_trans (he8.trans he9).next L10.next, fun id h4 => by
     have h5 := (he8.trans he9).next
     rw [L10.keep id (by omega) (fun h6 => by have := ho8 id h6; omega)]; exact (he8.trans he9).keep id h4⟩
    refine s_val rfl rfl rfl rfl <| s_nil <| s_region ?_
    refine s_val rfl (o_eq rfl (wrap_succ (n := i) (by omega))) rfl rfl ?_
    refine s_val rfl rfl rfl rfl <| s_nil ?_
    refine ⟨⟨i + 1, v10, h10⟩, ⟨hil, ?_, e10, fun id h4 => ?_⟩, by simp only; omega, ⟨rfl, rfl, rfl, rfl, rfl, rfl, trivial⟩, trivial, rfl⟩
    ·have : (ts.map (Ty.rename (idx ys))).take (i + 1) = (ts.map (Ty.rename (idx ys))).take i ++ [(ts.getD i default).rename (idx ys)] := by
      rw [List.take_add_one]
      simp [List.getD_eq_getElem?_getD, hti]
     rw [this]; exact hv10
    ·rcases L10.own id h4 with h5 | h5
     ·exact ho8 id h5
     ·have := (he8.trans he9).next; omega
   ·have hlt1 : decide ((i : Int) < (az.length : Nat)) = false := decide_eq_false (fun h => hil (Int.ofNat_lt.1 h))
    refine s_cond_f (congrArg (fun t => some (vbool t)) hlt1) ?_
    refine s_exit ?_
    refine s_seq ?_
    have htk : (ts.map (Ty.rename (idx ys))).take i = ts.map (Ty.rename (idx ys)) := List.take_of_length_le (by rw [List.length_map, hd.1]; omega)
    rw [htk] at hv8
    obtain ⟨h11, hz, hn11, hk11⟩ := frz_rows hv8.row
    rw [hv8.nil] at hz
    have e11 : Ext h1 h11 := ⟨by rw [hn11]; exact (fr6.trans he8).next, fun id h4 => by rw [hk11 id (fun h5 => by have := ho8 id h5; omega)]; exact (fr6.trans he8).keep id h4⟩
    refine s_region ?_
    refine s_frz rfl rfl rfl rfl rfl hz ?_
    refine s_val rfl rfl rfl rfl <| s_val rfl rfl rfl rfl <| s_nil <| s_ret ?_
    refine ⟨.inr rfl, _, allSome2 (r_tmp rfl rfl) (r_tmp rfl rfl), ?_, e11⟩
    have h12 : (ts.map (Ty.rename (idx ys))).isEmpty = ts.isEmpty := by cases ts <;> rfl
    rw [h12, List.length_map]; rfl
end Go.Dv.Us
/- Types that are read; fits. -/
namespace Go.Dv.Us
open Go.Dv.K Go.Proofs
section
variable {H : Nat → Option Obj} {b : Bool} {az : List Ty} {i : Nat}
theorem rowD_len : lenA H (.d (rowD (b && az.isEmpty) az.length (Ty.cellsL az))) = some az.length := by
 cases b with
 | false => rfl
 | true =>
  cases az with
  | nil => rfl
  | cons _ _ => rfl
theorem rowD_kind : lenKind ctx 33 (.d (rowD (b && az.isEmpty) az.length (Ty.cellsL az))) = true := by
 rcases rowD_cases (b && az.isEmpty) az.length (Ty.cellsL az) with h | h <;> rw [h] <;> rfl
theorem rowD_isL (n : Nat) (ds : List DV) : (AV.d (rowD b n ds)).isL = false := rfl
theorem cellsL_drop : ∀ (l : List Ty) (i : Nat), (Ty.cellsL l).drop (i * 4) = Ty.cellsL (l.drop i)
 | l, 0 => by simp
 | [], i + 1 => by simp [Ty.cellsL]
 | t :: l, i + 1 => by
  rw [show (i + 1) * 4 = 4 + i * 4 by omega, ← List.drop_drop]
  have : (Ty.cellsL (t :: l)).drop 4 = Ty.cellsL l := by
   simp only [Ty.cellsL]
   rw [List.drop_append_of_le_length (by rw [Ty.cells_length]; exact Nat.le_refl _), List.drop_of_length_le (by rw [Ty.cells_length]; exact Nat.le_refl _)]
   rfl
  rw [this, cellsL_drop l i]; rfl
/-- One of the types is read. -/
theorem rowD_read (hi : i < az.length) : ∃ q, indexAddrA ctx 33 (.d (rowD (b && az.isEmpty) az.length (Ty.cellsL az))) (vint i) = some q ∧ q.isL = false ∧ ∀ L, loadA ctx L H 40 q = some (az.getD i default).agg := by
 have hr : rowD (b && az.isEmpty) az.length (Ty.cellsL az) = .imm (Ty.cellsL az) az.length := by
  cases az with
  | nil => exact absurd hi (Nat.not_lt_zero _)
  | cons _ _ => cases b <;> rfl
 rw [hr]
 have h0 : (0 : Int) ≤ i ∧ (i : Int) < (az.length : Nat) := ⟨Int.natCast_nonneg i, Int.ofNat_lt.2 hi⟩
 refine ⟨.d (.iptr ((Ty.cellsL az).drop ((i : Int).toNat * 4))), ?_, rfl, fun L => ?_⟩
 ·have ht : ctx.T 33 = some ti33 := rfl
  have he : ctx.T 40 = some ti40 := rfl
  simp only [indexAddrA, intOf?, vint, ht, he, ti33]
  rw [if_pos h0]; rfl
 ·have he : ctx.T 40 = some ti40 := rfl
  have ht : takeExact 4 0 ((Ty.cellsL az).drop ((i : Int).toNat * 4)) = some (az.getD i default).cells := by
   rw [Int.toNat_natCast, cellsL_drop, List.drop_eq_getElem_cons hi]
   unfold takeExact
   simp only [Ty.cellsL, List.drop_zero]
   rw [List.take_append_of_le_length (by rw [Ty.cells_length]; exact Nat.le_refl _), List.take_of_length_le (by rw [Ty.cells_length]; exact Nat.le_refl _), if_pos (Ty.cells_length _)]
   simp [List.getD_eq_getElem?_getD, hi]
  simp only [loadA, he, ti40, ht]
  rfl
end
theorem len_beq0 {α : Type} (az : List α) (n : Nat) : (((az.length : Nat) : Int) == (n : Nat)) = decide (az.length = n) := cast_beq _ _
theorem beq_dec (a b : Int) : (a == b) = decide (a = b) := by
 by_cases h : a = b
 ·subst h; simp
 ·rw [decide_eq_false h]; exact beq_false_of_ne h
theorem fits_ret {K : List UInt8 → Int} (hK : KindOk K) {k n : Int} {s : List UInt8} {b : Bool} {az : List Ty} {h : Hp} (hs : s.length ≤ 2 ^ 30) :
  Ret ctx Or Xo 82 [(Ty.mk k n s b az).agg] h (fun v h' => v = vbool (Ty.fits K (.mk k n s b az)) ∧ h' = h) := by
 refine body (env := [(0, (Ty.mk k n s b az).agg)]) (rs := [.tmp 2]) Tryz.func82 rfl rfl Tryz.ntmps82 rfl rfl ?_
 refine s_seq <| s_region ?_
 refine s_newL rfl (o_boxL rfl rfl rfl rfl rfl rfl (Ty.cells_isCell _) rfl) rfl rfl rfl ?_
 refine s_val rfl rfl rfl rfl <| s_nil <| s_seq <| s_seq <| s_region <| s_val rfl rfl rfl rfl <| s_val rfl rfl rfl rfl <| s_nil <| s_block <| s_seq <| s_region <| s_val rfl rfl rfl rfl <| s_val rfl rfl rfl rfl <| s_nil ?_
 by_cases hk1 : k = 1
 ·subst hk1
  by_cases h0 : 0 ≤ n
  ·by_cases h1 : n < 1073741824
   ·by_cases h2 : s = []
    ·subst h2
     refine s_cond_t rfl <| s_seq <| s_region <| s_val rfl rfl rfl rfl <| s_val rfl rfl rfl rfl ?_
     refine s_val rfl (o_eq rfl (congrArg vbool (decide_eq_true h0))) rfl rfl ?_
     iterate 3 refine s_val rfl rfl rfl rfl ?_
     refine s_val rfl (o_eq rfl (congrArg vbool (decide_eq_true h1))) rfl rfl ?_
     iterate 9 refine s_val rfl rfl rfl rfl ?_
     refine s_val rfl (o_lenV rfl rfl (args1 rfl rfl) rfl rowD_kind rowD_len) rfl rfl ?_
     iterate 3 refine s_val rfl rfl rfl rfl ?_
     refine s_nil <| s_ret ?_
     refine ⟨.inr rfl, _, rfl, congrArg vbool ?_, rfl⟩
     first | (simp_all [Ty.fits, beq_dec]; done) | (simp_all [Ty.fits, beq_dec]; omega)
    ·skip
     refine s_cond_t rfl <| s_seq <| s_region <| s_val rfl rfl rfl rfl <| s_val rfl rfl rfl rfl ?_
     refine s_val rfl (o_eq rfl (congrArg vbool (decide_eq_true h0))) rfl rfl ?_
     iterate 3 refine s_val rfl rfl rfl rfl ?_
     refine s_val rfl (o_eq rfl (congrArg vbool (decide_eq_true h1))) rfl rfl ?_
     iterate 4 refine s_val rfl rfl rfl rfl ?_
     refine s_val rfl (o_eq rfl (congrArg vbool (show (s == []) = false from beq_false_of_ne h2))) rfl rfl ?_
     refine s_val rfl rfl rfl rfl <| s_val rfl rfl rfl rfl ?_
     iterate 4 refine s_no rfl rfl rfl ?_
     refine s_val rfl rfl rfl rfl <| s_val rfl rfl rfl rfl <| s_nil <| s_ret ?_
     refine ⟨.inr rfl, _, rfl, congrArg vbool ?_, rfl⟩
     first | (simp_all [Ty.fits, beq_dec]; done) | (simp_all [Ty.fits, beq_dec]; omega)
   ·skip
    refine s_cond_t rfl <| s_seq <| s_region <| s_val rfl rfl rfl rfl <| s_val rfl rfl rfl rfl ?_
    refine s_val rfl (o_eq rfl (congrArg vbool (decide_eq_true h0))) rfl rfl ?_
    iterate 3 refine s_val rfl rfl rfl rfl ?_
    refine s_val rfl (o_eq rfl (congrArg vbool (decide_eq_false h1))) rfl rfl ?_
    refine s_val rfl rfl rfl rfl <| s_val rfl rfl rfl rfl ?_
    iterate 3 refine s_no rfl rfl rfl ?_
    refine s_val rfl rfl rfl rfl <| s_val rfl rfl rfl rfl ?_
    iterate 4 refine s_no rfl rfl rfl ?_
    refine s_val rfl rfl rfl rfl <| s_val rfl rfl rfl rfl <| s_nil <| s_ret ?_
    refine ⟨.inr rfl, _, rfl, congrArg vbool ?_, rfl⟩
    first | (simp_all [Ty.fits, beq_dec]; done) | (simp_all [Ty.fits, beq_dec]; omega)
  ·skip
   refine s_cond_t rfl <| s_seq <| s_region <| s_val rfl rfl rfl rfl <| s_val rfl rfl rfl rfl ?_
   refine s_val rfl (o_eq rfl (congrArg vbool (decide_eq_false h0))) rfl rfl ?_
   refine s_val rfl rfl rfl rfl ?_
   iterate 3 refine s_no rfl rfl rfl ?_
   refine s_val rfl rfl rfl rfl <| s_val rfl rfl rfl rfl ?_
   iterate 3 refine s_no rfl rfl rfl ?_
   refine s_val rfl rfl rfl rfl <| s_val rfl rfl rfl rfl ?_
   iterate 4 refine s_no rfl rfl rfl ?_
   refine s_val rfl rfl rfl rfl <| s_val rfl rfl rfl rfl <| s_nil <| s_ret ?_
   refine ⟨.inr rfl, _, rfl, congrArg vbool ?_, rfl⟩
   first | (simp_all [Ty.fits, beq_dec]; done) | (simp_all [Ty.fits, beq_dec]; omega)
 ·refine s_cond_f (congrArg (fun t => some (vbool t)) (show (k == 1) = false from beq_false_of_ne hk1)) ?_
  refine s_seq <| s_region <| s_val rfl rfl rfl rfl <| s_val rfl rfl rfl rfl <| s_nil ?_
  by_cases hk2 : k = 2
  ·subst hk2
   by_cases h0 : n = 0
   ·subst h0
    refine s_cond_t rfl <| s_seq <| s_region ?_
    iterate 6 refine s_val rfl rfl rfl rfl ?_
    refine s_ret1 (hK s _ hs) rfl rfl rfl rfl ?_
    rintro _ _ ⟨rfl, rfl⟩
    iterate 3 refine s_val rfl rfl rfl rfl ?_
    refine s_nil <| s_ret ?_
    refine ⟨.inr rfl, _, rfl, congrArg vbool ?_, rfl⟩
    first | (simp_all [Ty.fits, beq_dec]; done) | (simp_all [Ty.fits, beq_dec]; omega)
   ·skip
    refine s_cond_t rfl <| s_seq <| s_region <| s_val rfl rfl rfl rfl <| s_val rfl rfl rfl rfl ?_
    refine s_val rfl (o_eq rfl (congrArg vbool (show (n == 0) = false from beq_false_of_ne h0))) rfl rfl ?_
    refine s_val rfl rfl rfl rfl ?_
    iterate 4 refine s_no rfl rfl rfl ?_
    refine s_val rfl rfl rfl rfl <| s_val rfl rfl rfl rfl <| s_nil <| s_ret ?_
    refine ⟨.inr rfl, _, rfl, congrArg vbool ?_, rfl⟩
    first | (simp_all [Ty.fits, beq_dec]; done) | (simp_all [Ty.fits, beq_dec]; omega)
  ·refine s_cond_f (congrArg (fun t => some (vbool t)) (show (k == 2) = false from beq_false_of_ne hk2)) ?_
   refine s_seq <| s_region <| s_val rfl rfl rfl rfl <| s_val rfl rfl rfl rfl <| s_nil ?_
   by_cases hk3 : k = 3
   ·subst hk3
    by_cases h0 : n = 0
    ·subst h0
     by_cases h2 : s = []
     ·subst h2
      refine s_cond_t rfl <| s_seq <| s_region ?_
      iterate 11 refine s_val rfl rfl rfl rfl ?_
      refine s_val rfl (o_lenV rfl rfl (args1 rfl rfl) rfl rowD_kind rowD_len) rfl rfl ?_
      iterate 3 refine s_val rfl rfl rfl rfl ?_
      refine s_nil <| s_ret ?_
      refine ⟨.inr rfl, _, rfl, congrArg vbool ?_, rfl⟩
      first | (simp_all [Ty.fits, beq_dec]; done) | (simp_all [Ty.fits, beq_dec]; omega)
     ·skip
      refine s_cond_t rfl <| s_seq <| s_region ?_
      iterate 6 refine s_val rfl rfl rfl rfl ?_
      refine s_val rfl (o_eq rfl (congrArg vbool (show (s == []) = false from beq_false_of_ne h2))) rfl rfl ?_
      refine s_val rfl rfl rfl rfl <| s_val rfl rfl rfl rfl ?_
      iterate 4 refine s_no rfl rfl rfl ?_
      refine s_val rfl rfl rfl rfl <| s_val rfl rfl rfl rfl <| s_nil <| s_ret ?_
      refine ⟨.inr rfl, _, rfl, congrArg vbool ?_, rfl⟩
      first | (simp_all [Ty.fits, beq_dec]; done) | (simp_all [Ty.fits, beq_dec]; omega)
    ·skip
     refine s_cond_t rfl <| s_seq <| s_region <| s_val rfl rfl rfl rfl <| s_val rfl rfl rfl rfl ?_
     refine s_val rfl (o_eq rfl (congrArg vbool (show (n == 0) = false from beq_false_of_ne h0))) rfl rfl ?_
     refine s_val rfl rfl rfl rfl ?_
     iterate 3 refine s_no rfl rfl rfl ?_
     refine s_val rfl rfl rfl rfl <| s_val rfl rfl rfl rfl ?_
     iterate 4 refine s_no rfl rfl rfl ?_
     refine s_val rfl rfl rfl rfl <| s_val rfl rfl rfl rfl <| s_nil <| s_ret ?_
     refine ⟨.inr rfl, _, rfl, congrArg vbool ?_, rfl⟩
     first | (simp_all [Ty.fits, beq_dec]; done) | (simp_all [Ty.fits, beq_dec]; omega)
   ·refine s_cond_f (congrArg (fun t => some (vbool t)) (show (k == 3) = false from beq_false_of_ne hk3)) ?_
    refine s_seq <| s_region <| s_val rfl rfl rfl rfl <| s_val rfl rfl rfl rfl <| s_nil ?_
    by_cases hk4 : k = 4
    ·subst hk4
     by_cases h0 : n = 0
     ·subst h0
      by_cases h2 : s = []
      ·subst h2
       refine s_cond_t rfl <| s_seq <| s_region ?_
       iterate 11 refine s_val rfl rfl rfl rfl ?_
       refine s_val rfl (o_lenV rfl rfl (args1 rfl rfl) rfl rowD_kind rowD_len) rfl rfl ?_
       iterate 3 refine s_val rfl rfl rfl rfl ?_
       refine s_nil <| s_ret ?_
       refine ⟨.inr rfl, _, rfl, congrArg vbool ?_, rfl⟩
       first | (simp_all [Ty.fits, beq_dec]; done) | (simp_all [Ty.fits, beq_dec]; omega)
      ·skip
       refine s_cond_t rfl <| s_seq <| s_region ?_
       iterate 6 refine s_val rfl rfl rfl rfl ?_
       refine s_val rfl (o_eq rfl (congrArg vbool (show (s == []) = false from beq_false_of_ne h2))) rfl rfl ?_
       refine s_val rfl rfl rfl rfl <| s_val rfl rfl rfl rfl ?_
       iterate 4 refine s_no rfl rfl rfl ?_
       refine s_val rfl rfl rfl rfl <| s_val rfl rfl rfl rfl <| s_nil <| s_ret ?_
       refine ⟨.inr rfl, _, rfl, congrArg vbool ?_, rfl⟩
       first | (simp_all [Ty.fits, beq_dec]; done) | (simp_all [Ty.fits, beq_dec]; omega)
     ·skip
      refine s_cond_t rfl <| s_seq <| s_region <| s_val rfl rfl rfl rfl <| s_val rfl rfl rfl rfl ?_
      refine s_val rfl (o_eq rfl (congrArg vbool (show (n == 0) = false from beq_false_of_ne h0))) rfl rfl ?_
      refine s_val rfl rfl rfl rfl ?_
      iterate 3 refine s_no rfl rfl rfl ?_
      refine s_val rfl rfl rfl rfl <| s_val rfl rfl rfl rfl ?_
      iterate 4 refine s_no rfl rfl rfl ?_
      refine s_val rfl rfl rfl rfl <| s_val rfl rfl rfl rfl <| s_nil <| s_ret ?_
      refine ⟨.inr rfl, _, rfl, congrArg vbool ?_, rfl⟩
      first | (simp_all [Ty.fits, beq_dec]; done) | (simp_all [Ty.fits, beq_dec]; omega)
    ·refine s_cond_f (congrArg (fun t => some (vbool t)) (show (k == 4) = false from beq_false_of_ne hk4)) ?_
     refine s_skip <| s_seq <| s_region <| s_val rfl rfl rfl rfl <| s_nil <| s_ret ?_
     refine ⟨.inr rfl, _, rfl, congrArg vbool ?_, rfl⟩
     first | (simp_all [Ty.fits, beq_dec]; done) | (simp_all [Ty.fits, beq_dec]; omega)
end Go.Dv.Us
/- walk, parts, Right. -/
namespace Go.Dv.Us
open Go.Dv.K Go.Proofs
theorem argL (t : Ty) : t.agg.isL = false := rfl
structure WKx where
 i : Nat
 h : Hp
/-- All parts are handed on, until no more is wanted. -/
theorem walk_run {y : Nat} {L : List Ty} {I : Nat → Hp → Prop} {E : Hp → Prop} (hY : ∀ (i : Nat) (h : Hp) (q : Ty), L[i]? = some q → I i h → Yld ctx Or Xo y [q.agg] h (fun b h' => (b = true ∧ I (i + 1) h') ∨ (b = false ∧ E h'))) :
  ∀ (t : Ty) (i0 : Nat), (∀ j, j < t.size → L[i0 + j]? = t.pre[j]?) → (t.size ≤ 2 ^ 40) → ∀ {h : Hp}, I i0 h → Ret ctx Or Xo 142 [t.agg, .yld y] h (fun v h' => ∃ b, v = vbool b ∧ ((b = true ∧ I (i0 + t.size) h') ∨ (b = false ∧ E h'))) := by
 intro t
 induction t using Ty.ind with
 | h k n s b az ih =>
  intro i0 hL hbig h h0
  have hsz : Ty.size (.mk k n s b az) = 1 + Ty.sizeL az := by simp [Ty.size]
  have hge := Ty.sizeL_ge az
  have hq0 : L[i0]? = some (.mk k n s b az) := by
   have := hL 0 (by omega)
   simpa [Ty.pre] using this
  have hpre : ∀ j, j < az.length → ∀ x, x < (az.getD j default).size → L[i0 + 1 + Ty.sizeL (az.take j) + x]? = (az.getD j default).pre[x]? := fun j hj x hx => by
   have key : ∀ (l : List Ty) (j : Nat), j < l.length → ∀ x, x < (l.getD j default).size → (Ty.preL l)[Ty.sizeL (l.take j) + x]? = (l.getD j default).pre[x]? ∧ Ty.sizeL (l.take j) + x < Ty.sizeL l := by
    intro l
    induction l with
    | nil => intro j hj; exact absurd hj (Nat.not_lt_zero _)
    | cons a l ih =>
     intro j hj x hx
     cases j with
     | zero =>
      simp only [List.getD_cons_zero] at hx ⊢
      simp only [List.take_zero, Ty.sizeL, Nat.zero_add, Ty.preL]
      rw [List.getElem?_append_left (by rw [Ty.preL_length]; exact hx)]
      exact ⟨rfl, by omega⟩
     | succ j =>
      simp only [List.getD_cons_succ] at hx ⊢
      have := ih j (by simpa using hj) x hx
      simp only [List.take_succ_cons, Ty.sizeL, Ty.preL]
      rw [List.getElem?_append_right (by rw [Ty.preL_length]; omega), Ty.preL_length]
      exact ⟨by rw [← this.1]; congr 1; omega, by omega⟩
   obtain ⟨h1, h2⟩ := key az j hj x hx
   rw [← h1]
   have := hL (1 + (Ty.sizeL (az.take j) + x)) (by omega)
   rw [show i0 + 1 + Ty.sizeL (az.take j) + x = i0 + (1 + (Ty.sizeL (az.take j) + x)) by omega, this]
   simp only [Ty.pre]
   rw [Nat.add_comm 1, List.getElem?_cons_succ]
  refine body (env := [(0, (Ty.mk k n s b az).agg), (1, .yld y)]) (rs := [.tmp 4]) Tryz.func142 rfl rfl Tryz.ntmps142 rfl rfl ?_
  refine s_seq <| s_region ?_
  refine s_newL rfl (o_boxL rfl rfl rfl rfl rfl rfl (Ty.cells_isCell _) rfl) rfl rfl rfl ?_
  refine s_val rfl rfl rfl rfl <| s_nil <| s_seq <| s_seq <| s_region <| s_val rfl rfl rfl rfl <| s_val rfl rfl rfl rfl ?_
  refine s_yield (hY i0 h _ hq0 h0) rfl (c_yld rfl rfl rfl (args1 rfl rfl)) rfl rfl ?_
  rintro _ h1 hyl
  refine s_val rfl rfl rfl rfl <| s_nil ?_
  rcases hyl with ⟨rfl, h0⟩ | ⟨rfl, hE⟩
  ·skip
   refine s_cond_f rfl <| s_skip <| s_seq <| s_seq <| s_region <| s_val rfl rfl rfl rfl <| s_val rfl rfl rfl rfl ?_
   refine s_val rfl (o_lenV rfl rfl (args1 rfl rfl) rfl rowD_kind rowD_len) rfl rfl ?_
   refine s_val rfl rfl rfl rfl <| s_nil <| s_block ?_
   refine s_rounds (ι := WKx) (fun i => ⟨[(1, .yld y), (12, .d (rowD (b && az.isEmpty) az.length (Ty.cellsL az))), (13, vint az.length), (14, vint i.i)], [], i.h⟩) (fun i => i.i ≤ az.length ∧ I (i0 + 1 + Ty.sizeL (az.take i.i)) i.h) (fun i => az.length - i.i) ?_ ⟨0, h1⟩ ⟨Nat.zero_le _, h0⟩ ⟨⟨rfl, rfl, rfl, rfl, trivial⟩, trivial, rfl⟩
   rintro ⟨i, h2⟩ ⟨hi, hI⟩
   simp only at hi hI
   refine s_seq <| s_region <| s_val rfl rfl rfl rfl <| s_nil <| s_seq ?_
   by_cases hil : i < az.length
   ·have hlt1 : decide ((i : Int) < (az.length : Nat)) = true := decide_eq_true (Int.ofNat_lt.2 hil)
    refine s_cond_t (congrArg (fun t => some (vbool t)) hlt1) ?_
    obtain ⟨q, hq1, hqL, hq2⟩ := rowD_read (H := h2.get) (b := b) hil
    have hmem := getD_mem' hil
    generalize hae : az.getD i default = a at hmem hq2
    refine s_skip <| s_seq <| s_block <| s_seq <| s_region ?_
    refine s_val rfl (o_indexV rfl rfl rfl hq1) rfl rfl ?_
    refine s_val rfl (o_loadV rfl rfl (hq2 _)) rfl rfl ?_
    refine s_newL rfl rfl rfl rfl (by repeat first | rfl | refine noL_cons (by first | rfl | exact hqL) ?_) ?_
    refine s_setL rfl (o_storeL rfl rfl rfl rfl (by rw [show a.agg.cells.length = a.cells.length from List.length_map .., Ty.cells_length]; rfl) rfl (Ty.cells_isCell a) rfl (by rw [show a.agg.cells.length = a.cells.length from List.length_map .., Ty.cells_length]; exact Nat.le_refl _)) rfl ?_
    refine s_nil <| s_seq <| s_region ?_
    refine s_val rfl (o_eq (v := a.agg) (by cases a; rfl) rfl) rfl rfl ?_
    refine s_val rfl rfl rfl rfl ?_
    refine s_ret1 (ih a hmem (i0 + 1 + Ty.sizeL (az.take i)) (fun j hj => by rw [← hae] at hj ⊢; exact hpre i hil j hj) (by have := Ty.size_mem hmem; omega) hI) rfl rfl rfl rfl ?_
    rintro _ h3 ⟨bb, rfl, hyl⟩
    refine s_val rfl rfl rfl rfl <| s_nil ?_
    rcases hyl with ⟨rfl, hI3⟩ | ⟨rfl, hE⟩
    ·skip
     refine s_cond_f rfl <| s_skip <| s_region ?_
     refine s_val rfl (o_eq rfl (wrap_succ (n := i) (by omega))) rfl rfl ?_
     refine s_val rfl rfl rfl rfl <| s_nil ?_
     refine ⟨⟨i + 1, h3⟩, ⟨hil, ?_⟩, by simp only; omega, ⟨rfl, rfl, rfl, rfl, trivial⟩, trivial, rfl⟩
     have : Ty.sizeL (az.take (i + 1)) = Ty.sizeL (az.take i) + a.size := by
      rw [List.take_add_one, Ty.sizeL_append, ← hae]
      simp [List.getD_eq_getElem?_getD, hil, Ty.sizeL]
     simp only
     rw [this, ← Nat.add_assoc]; exact hI3
    ·skip
     refine s_cond_t rfl <| s_seq <| s_region <| s_val rfl rfl rfl rfl <| s_nil <| s_ret ?_
     exact ⟨.inr rfl, _, rfl, false, rfl, .inr ⟨rfl, hE⟩⟩
   ·have hlt1 : decide ((i : Int) < (az.length : Nat)) = false := decide_eq_false (fun h => hil (Int.ofNat_lt.1 h))
    refine s_cond_f (congrArg (fun t => some (vbool t)) hlt1) ?_
    refine s_exit ?_
    refine s_seq <| s_region <| s_val rfl rfl rfl rfl <| s_nil <| s_ret ?_
    refine ⟨.inr rfl, _, rfl, true, rfl, .inl ⟨rfl, ?_⟩⟩
    have hie : i = az.length := by omega
    rw [hie, List.take_length] at hI
    rw [hsz, ← Nat.add_assoc]; exact hI
  ·skip
   refine s_cond_t rfl <| s_seq <| s_region <| s_val rfl rfl rfl rfl <| s_nil <| s_ret ?_
   exact ⟨.inr rfl, _, rfl, false, rfl, .inr ⟨rfl, hE⟩⟩
end Go.Dv.Us
/- parts, Right. -/
namespace Go.Dv.Us
open Go.Dv.K Go.Proofs
theorem agg_zero (t : Ty) : oneOf true (t.agg.cells) = some t.agg := by cases t; rfl
theorem agg_take (t : Ty) : takeExact 4 0 t.agg.cells = some t.agg.cells := takeExact_all (by rw [show t.agg.cells.length = t.cells.length from List.length_map .., Ty.cells_length])
theorem agg_len (t : Ty) : t.agg.cells.length = 4 := by rw [show t.agg.cells.length = t.cells.length from List.length_map .., Ty.cells_length]
theorem agg_put (t : Ty) {cs : List AV} (h : cs.length = 4) : putAt cs 0 t.agg.cells = t.agg.cells := by
  simp only [putAt, List.take_zero, List.nil_append, Nat.zero_add, agg_len]
  rw [List.drop_of_length_le (by omega), List.append_nil]
theorem r_cell {C : Ctx} {σ : SSt} {a id off ver : Nat} {t : TypeId} {v : AV} {ti : TI} {cs r : List AV} (ha : lk σ.env a = some (.ptr id off ver)) (hg : σ.h.get id = some (.cells cs ver)) (ht : C.T t = some ti) (hr : takeExact ti.size off cs = some r) (hv : oneOf ti.agg r = some v) : resA C σ.to (.cell a t) = some v := by
  simp only [resA, SSt.to, ha, loadA, ht, hg, if_true, hr, hv]
theorem fits_ret' {K : List UInt8 → Int} (hK : KindOk K) {q : Ty} {h : Hp} (hs : q.name.length ≤ 2 ^ 30) : Ret ctx Or Xo 82 [q.agg] h (fun v h' => v = vbool (q.fits K) ∧ h' = h) := by
  cases q; exact fits_ret hK hs
theorem parts_ret {h : Hp} {t : Ty} : Ret ctx Or Xo 81 [t.agg] h (fun w h' => w = .clo 141 [] [.ptr h.next 0 0] ∧ h' = h.newV t.agg.cells 40) := by
  refine body (env := [(0, t.agg)]) (rs := [.tmp 2]) Tryz.func81 rfl rfl Tryz.ntmps81 rfl rfl ?_
  refine s_seq <| s_region ?_
  refine s_newVar rfl (by unfold opA; simp only; rw [show (rho ctx (lk [(0, t.agg)]) (.tmp 0)) = some t.agg from rfl, show ctx.T 40 = some ti40 from rfl]; simp only; rw [if_neg (by simp [ti40, agg_len, argL]; simpa using Ty.cells_isCell t), if_pos (of_decide_eq_true rfl)]) rfl rfl ?_
  refine s_val rfl rfl rfl rfl <| s_nil <| s_seq <| s_region <| s_val rfl rfl rfl rfl <| s_val rfl rfl rfl rfl <| s_nil <| s_ret ?_
  exact ⟨.inr rfl, _, rfl, rfl, rfl⟩
theorem parts_run {y bx : Nat} {I : Nat → Hp → Prop} {E : Hp → Prop} {t : Ty} (hY : ∀ (i : Nat) (h : Hp) (q : Ty), t.pre[i]? = some q → I i h → Yld ctx Or Xo y [q.agg] h (fun b h' => (b = true ∧ I (i + 1) h') ∨ (b = false ∧ E h')))
    (hbig : t.size ≤ 2 ^ 40) {h : Hp} (hb : h.get bx = some (.cells t.agg.cells 0)) (h0 : I 0 h) : Ret ctx Or Xo 141 [.yld y, .ptr bx 0 0] h (fun _ h' => I t.size h' ∨ E h') := by
  refine body (env := [(0, .yld y), (1, .ptr bx 0 0)]) (rs := []) Tryz.func141 rfl rfl Tryz.ntmps141 rfl rfl ?_
  refine s_region ?_
  refine s_val rfl (o_load rfl rfl rfl hb (agg_take t) (agg_zero t)) rfl rfl ?_
  refine s_val rfl rfl rfl rfl ?_
  refine s_ret1 (walk_run hY t 0 (fun j _ => by rw [Nat.zero_add]) hbig h0) rfl rfl rfl rfl ?_
  rintro _ h3 ⟨bb, rfl, hyl⟩
  refine s_nil ?_
  refine ⟨.inl rfl, _, rfl, ?_⟩
  rcases hyl with ⟨_, h4⟩ | ⟨_, h4⟩
  · rw [Nat.zero_add] at h4; exact .inl h4
  · exact .inr h4
/-- Is it a right type? -/
def Ty.right (K : List UInt8 → Int) (t : Ty) : Bool := decide (t.size ≤ 300) && t.pre.all (Ty.fits K)
/-- Names that lex.Kind is asked of. -/
def Ty.Short (t : Ty) : Prop := ∀ q ∈ t.pre, q.name.length ≤ 2 ^ 30
structure RJ (K : List UInt8 → Int) (t : Ty) (h0 : Hp) (br bc y : Nat) (rec : LoopR) (i : Nat) (h : Hp) : Prop where
  fr : Ext h0 h
  gr : h.get br = some (.cells [vbool false] 0)
  gc : h.get bc = some (.cells [vint i] 0)
  gy : h.get y = some (.loop rec)
  le : i ≤ 300
  fit : ∀ j, j < i → ∃ q, t.pre[j]? = some q ∧ q.fits K = true
structure RE (K : List UInt8 → Int) (t : Ty) (h0 : Hp) (br y : Nat) (rec : LoopR) (h : Hp) : Prop where
  fr : Ext h0 h
  gr : h.get br = some (.cells [vbool false] 0)
  gy : h.get y = some (.loop { rec with state := .done, pending := some .ret })
  no : t.right K = false
theorem right_ret {K : List UInt8 → Int} (hK : KindOk K) {t : Ty} (hs : t.Short) (hbig : t.size ≤ 2 ^ 40) {h : Hp} : Ret ctx Or Xo 38 [t.agg] h (fun v h' => v = vbool (t.right K) ∧ Ext h h') := by
  refine body (env := [(0, t.agg)]) (rs := [.cell 2 4]) Tryz.func38 rfl rfl Tryz.ntmps38 rfl rfl ?_
  refine s_seq <| s_region ?_
  refine s_newL rfl (o_boxL rfl rfl rfl rfl (agg_len t) rfl (Ty.cells_isCell t) rfl) rfl rfl rfl ?_
  refine s_newVar rfl rfl rfl rfl ?_
  refine s_nil <| s_seq <| s_region ?_
  refine s_newVar rfl rfl rfl rfl ?_
  refine s_setH rfl (o_store1 rfl rfl rfl rfl rfl rfl rfl rfl (if_pos rfl) (Nat.le_of_ble_eq_true rfl)) rfl ?_
  refine s_nil <| s_seq <| s_seq <| s_region ?_
  refine s_val rfl (o_loadL rfl rfl rfl rfl (agg_take t) (agg_zero t)) rfl rfl ?_
  refine s_ret1 (parts_ret) rfl rfl rfl rfl ?_
  rintro _ h4 ⟨rfl, he4⟩
  have hl4 : h4.next = h.next + 3 := by rw [he4]; rfl
  have e4 : Ext h h4 := by rw [he4]; exact (((Ext.newV ..).trans (Ext.newV ..)).set (Nat.le_succ _)).trans (Ext.newV ..)
  have gr4 : h4.get h.next = some (.cells [vbool false] 0) := by
    rw [he4, Hp.get_newV, if_neg (by show h.next ≠ h.next + 2; omega), Hp.get_set_ne (by show h.next ≠ h.next + 1; omega), Hp.get_newV, if_neg (by show h.next ≠ h.next + 1; omega), Hp.get_newV, if_pos rfl]; rfl
  have gc4 : h4.get (h.next + 1) = some (.cells [vint (0 : Nat)] 0) := by
    rw [he4, Hp.get_newV, if_neg (by show h.next + 1 ≠ h.next + 2; omega)]
    exact Hp.get_set_eq
  have gx4 : h4.get (h.next + 2) = some (.cells t.agg.cells 0) := by
    rw [he4, Hp.get_newV]; exact if_pos rfl
  refine s_nil <| s_block ?_
  refine s_rangeR (ke := [(2, .ptr h.next 0 0), (3, .ptr (h.next + 1) 0 0)]) (R := fun rec _ hh => RJ K t h h.next (h.next + 1) (h.next + 3) rec t.size hh ∨ RE K t h h.next (h.next + 3) rec hh) rfl rfl rfl ⟨rfl, rfl, trivial⟩ rfl ?_ ?_
  · intro rec hrec
    rw [hl4]
    refine parts_run (bx := h.next + 2) (I := RJ K t h h.next (h.next + 1) (h.next + 3) rec) (E := RE K t h h.next (h.next + 3) rec) (fun i hh q hq B => ?_) hbig (by rw [Hp.get_alloc, if_neg (by omega)]; exact gx4) ⟨e4.trans (Ext.alloc ..), ?_, ?_, ?_, Nat.zero_le _, fun j hj => absurd hj (Nat.not_lt_zero _)⟩
    · subst hrec
      have hqs : q.name.length ≤ 2 ^ 30 := hs q (List.mem_of_getElem? hq)
      refine yld_of B.gy rfl ?_
      refine s_region ?_
      refine s_newL rfl rfl rfl rfl rfl ?_
      refine s_setL rfl (o_storeL rfl rfl rfl rfl (agg_len q) rfl (Ty.cells_isCell q) rfl (by rw [agg_len]; exact Nat.le_refl _)) rfl ?_
      refine s_nil ?_
      refine ⟨rfl, _, B.gy, rfl, ?_⟩
      refine s_block <| s_seq ?_
      have k4 : ∀ ob, (hh.set (h.next + 3) ob).get (h.next + 1) = some (.cells [vint i] 0) := fun ob => (Hp.get_set_ne (by omega)).trans B.gc
      refine s_region ?_
      refine s_val rfl (o_load rfl rfl rfl (k4 _) rfl rfl) rfl rfl ?_
      refine s_val rfl (o_eq rfl (wrap_succ (n := i) (by have := B.le; omega))) rfl rfl ?_
      refine s_setH rfl (o_store1 rfl rfl rfl rfl rfl rfl rfl rfl (k4 _) (Nat.le_of_ble_eq_true rfl)) rfl ?_
      refine s_nil ?_
      have hil : i < t.size := by rw [← Ty.preL_length]; exact (List.getElem?_eq_some_iff.1 hq).1
      by_cases hmany : i + 1 > 300
      · skip
        refine s_seq <| s_region ?_
        refine s_val rfl (o_load rfl rfl rfl Hp.get_set_eq rfl rfl) rfl rfl ?_
        refine s_val rfl (o_eq rfl (congrArg vbool (decide_eq_true (show ((i + 1 : Nat) : Int) > 300 by omega)))) rfl rfl ?_
        refine s_val rfl rfl rfl rfl ?_
        iterate 3 refine s_no rfl rfl rfl ?_
        refine s_val rfl rfl rfl rfl <| s_nil <| s_cond_t rfl <| s_seq <| s_region ?_
        refine s_setH rfl (o_store1 rfl rfl rfl rfl rfl rfl rfl rfl ((Hp.get_set_ne (by omega)).trans ((Hp.get_set_ne (by omega)).trans B.gr)) (Nat.le_of_ble_eq_true rfl)) rfl ?_
        refine s_nil <| s_ret ?_
        have hno : t.right K = false := by
          unfold Ty.right
          first
          | (rw [decide_eq_false (by omega)]; rfl)
          | (have hfq : q.fits K = false := by simpa using ht
             rw [Bool.and_eq_false_iff]; right
             rw [List.all_eq_false]
             exact ⟨q, List.mem_of_getElem? hq, by rw [hfq]; simp⟩)
        refine ⟨_, (Hp.get_set_ne (by omega)).trans ((Hp.get_set_ne (by omega)).trans Hp.get_set_eq), .inr ⟨rfl, ⟨B.fr.next, fun id h7 => ?_⟩, ?_, Hp.get_set_eq, hno⟩⟩
        · rw [Hp.get_set_ne (by omega), Hp.get_set_ne (by omega), Hp.get_set_ne (by omega), Hp.get_set_ne (by omega)]; exact B.fr.keep id h7
        · rw [Hp.get_set_ne (by omega)]; exact Hp.get_set_eq
      · skip
        refine s_seq <| s_region ?_
        refine s_val rfl (o_load rfl rfl rfl Hp.get_set_eq rfl rfl) rfl rfl ?_
        refine s_val rfl (o_eq rfl (congrArg vbool (decide_eq_false (show ¬ ((i + 1 : Nat) : Int) > 300 by omega)))) rfl rfl ?_
        refine s_val rfl rfl rfl rfl ?_
        refine s_val rfl (o_loadL rfl rfl rfl rfl (by rw [agg_put q rfl]; exact agg_take q) (agg_zero q)) rfl rfl ?_
        refine s_ret1 (fits_ret' hK hqs) rfl rfl rfl rfl ?_
        rintro _ _ ⟨rfl, rfl⟩
        refine s_val rfl rfl rfl rfl <| s_val rfl rfl rfl rfl <| s_nil ?_
        refine s_if rfl (fun ht => ?_) (fun ht => ?_)
        · skip
          refine s_seq <| s_region ?_
          refine s_setH rfl (o_store1 rfl rfl rfl rfl rfl rfl rfl rfl ((Hp.get_set_ne (by omega)).trans ((Hp.get_set_ne (by omega)).trans B.gr)) (Nat.le_of_ble_eq_true rfl)) rfl ?_
          refine s_nil <| s_ret ?_
          have hno : t.right K = false := by
            unfold Ty.right
            first
            | (rw [decide_eq_false (by omega)]; rfl)
            | (have hfq : q.fits K = false := by simpa using ht
               rw [Bool.and_eq_false_iff]; right
               rw [List.all_eq_false]
               exact ⟨q, List.mem_of_getElem? hq, by rw [hfq]; simp⟩)
          refine ⟨_, (Hp.get_set_ne (by omega)).trans ((Hp.get_set_ne (by omega)).trans Hp.get_set_eq), .inr ⟨rfl, ⟨B.fr.next, fun id h7 => ?_⟩, ?_, Hp.get_set_eq, hno⟩⟩
          · rw [Hp.get_set_ne (by omega), Hp.get_set_ne (by omega), Hp.get_set_ne (by omega), Hp.get_set_ne (by omega)]; exact B.fr.keep id h7
          · rw [Hp.get_set_ne (by omega)]; exact Hp.get_set_eq
        · skip
          refine s_skip ?_
          have hfq : q.fits K = true := by simpa using ht
          refine ⟨_, (Hp.get_set_ne (by omega)).trans Hp.get_set_eq, .inl ⟨rfl, ⟨B.fr.next, fun id h7 => ?_⟩, ?_, ?_, Hp.get_set_eq, by omega, fun j hj => ?_⟩⟩
          · rw [Hp.get_set_ne (by omega), Hp.get_set_ne (by omega), Hp.get_set_ne (by omega)]; exact B.fr.keep id h7
          · rw [Hp.get_set_ne (by omega), Hp.get_set_ne (by omega), Hp.get_set_ne (by omega)]; exact B.gr
          · rw [Hp.get_set_ne (by omega)]; exact Hp.get_set_eq
          · rcases Nat.lt_succ_iff_lt_or_eq.1 hj with h7 | h7
            · exact B.fit j h7
            · subst h7; exact ⟨q, hq, hfq⟩
    · rw [Hp.get_alloc, if_neg (by omega)]; exact gr4
    · rw [Hp.get_alloc, if_neg (by omega)]; exact gc4
    · rw [Hp.get_alloc, if_pos hl4.symm]
  · rintro rec _ h6 hBE hrec
    rw [hl4]
    have hdel : ∀ id, id ≠ h.next + 3 → (h6.del (h.next + 3)).get id = h6.get id := fun id h7 => if_neg h7
    rcases hBE with B | B
    · refine ⟨rec, .normal, B.gy, by rw [hrec]; simp [loopOf], by rw [hrec]; rfl, ?_⟩
      have hall : t.right K = true := by
        unfold Ty.right
        rw [Bool.and_eq_true, List.all_eq_true]
        refine ⟨decide_eq_true B.le, fun q hq => ?_⟩
        obtain ⟨j, hj, he⟩ := List.getElem_of_mem hq
        obtain ⟨q', h7, h8⟩ := B.fit j (by rw [← Ty.preL_length]; exact hj)
        rw [List.getElem?_eq_getElem hj, he] at h7
        cases h7; exact h8
      have gr6 := (hdel h.next (by omega)).trans B.gr
      have fr6 := B.fr.del (id := h.next + 3) (by omega)
      refine s_seq <| s_region ?_
      refine s_setH rfl (o_store1 rfl rfl rfl rfl rfl rfl rfl rfl gr6 (Nat.le_of_ble_eq_true rfl)) rfl ?_
      refine s_nil <| s_ret ?_
      refine ⟨.inr rfl, _, allSome1 (r_cell rfl Hp.get_set_eq rfl rfl rfl), ?_, fr6.set (Nat.le_refl _)⟩
      rw [hall]; rfl
    · refine ⟨_, .ret, B.gy, by simp, rfl, ?_⟩
      refine ⟨.inr rfl, _, allSome1 (r_cell rfl ((hdel h.next (by omega)).trans B.gr) rfl rfl rfl), ?_, B.fr.del (by omega)⟩
      rw [B.no]; rfl
end Go.Dv.Us
