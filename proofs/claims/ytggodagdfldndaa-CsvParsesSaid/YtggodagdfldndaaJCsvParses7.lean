/- tartanref03.one, all paths together. -/
import Derived.Test.YtggodagdfldndaaJCsvParses6
import Derived.Test.YtggodagdfldndaaJCsvParses2
import Derived.Deep.RegionHeld3
set_option linter.unusedVariables false
set_option linter.unusedSimpArgs false
namespace Go.Proofs.Ytggodagdfldndaa
open Go.RowKit Go.Proofs.YtggodagdfldndaaW.PrintWords Go.Proofs.YtggodagdfldndaaW.PrintLast Go.Proofs.YtggodagdfldndaaW.PrintMore
open Q Q.L
theorem size_alloc (w : World) (o : Obj) : (w.alloc o).heap.size = w.heap.size + 1 := Array.size_push _
/-- What the result's block holds when seven cells have been laid into it. -/
theorem seven (W : World) (g : Nat) (z0 z1 z2 z3 z4 z5 z6 v0 v1 v2 v3 v4 v5 v6 : Value) (h : W.heap[g]? = some (.cells #[z0, z1, z2, z3, z4, z5, z6] 82 (0, 0))) :
    (((((((W.setCell ⟨g, 0, none⟩ v0).setCell ⟨g, 1, none⟩ v1).setCell ⟨g, 2, none⟩ v2).setCell ⟨g, 3, none⟩ v3).setCell ⟨g, 4, none⟩ v4).setCell ⟨g, 5, none⟩ v5).setCell ⟨g, 6, none⟩ v6).heap[g]? = some (.cells #[v0, v1, v2, v3, v4, v5, v6] 82 (0, 0)) := by
  have h0 := blk_put (cs' := #[v0, z1, z2, z3, z4, z5, z6]) h 0 v0 rfl
  have h1 := blk_put (cs' := #[v0, v1, z2, z3, z4, z5, z6]) h0 1 v1 rfl
  have h2 := blk_put (cs' := #[v0, v1, v2, z3, z4, z5, z6]) h1 2 v2 rfl
  have h3 := blk_put (cs' := #[v0, v1, v2, v3, z4, z5, z6]) h2 3 v3 rfl
  have h4 := blk_put (cs' := #[v0, v1, v2, v3, v4, z5, z6]) h3 4 v4 rfl
  have h5 := blk_put (cs' := #[v0, v1, v2, v3, v4, v5, z6]) h4 5 v5 rfl
  have h6 := blk_put (cs' := #[v0, v1, v2, v3, v4, v5, v6]) h5 6 v6 rfl
  exact h6
theorem seven_below {w0 W : World} {g : Nat} (hb : Below w0.heap.size w0 W) (hg : w0.heap.size ≤ g) (v0 v1 v2 v3 v4 v5 v6 : Value) :
    Below w0.heap.size w0 (((((((W.setCell ⟨g, 0, none⟩ v0).setCell ⟨g, 1, none⟩ v1).setCell ⟨g, 2, none⟩ v2).setCell ⟨g, 3, none⟩ v3).setCell ⟨g, 4, none⟩ v4).setCell ⟨g, 5, none⟩ v5).setCell ⟨g, 6, none⟩ v6) :=
  below_set (below_set (below_set (below_set (below_set (below_set (below_set hb hg) hg) hg) hg) hg) hg) hg
/-- The state behind the first three lines: the reader's block g, the result's block g + 1. -/
structure OneAt (w W : World) (g : Nat) (cs : Array Value) : Prop where
  eg : g = w.heap.size
  rd : W.heap[g]? = some (.cells cs 82 (0, 0))
  res : W.heap[g + 1]? = some (.cells #[Value.slice none 0 0, Value.slice none 0 0, Value.string { data := #[] }, Value.int IntKind.i64 0, Value.int IntKind.i64 0, Value.int IntKind.i64 0, Value.int IntKind.i64 0] 82 (0, 0))
  bel : Below w.heap.size w W
theorem oneAt (w : World) (cs : Array Value) (nd : Nat) : OneAt w (((w.alloc (Obj.cells cs 82)).alloc (Obj.cells #[Value.slice none 0 0, Value.slice none 0 0, Value.string { data := #[] }, Value.int IntKind.i64 0, Value.int IntKind.i64 0, Value.int IntKind.i64 0, Value.int IntKind.i64 0] 82)).drewN nd) w.heap.size cs :=
  ⟨rfl, blk_drewN (blk_alloc (blk_new _ _) _) _, by
    have h := blk_new (w.alloc (Obj.cells cs 82)) (Obj.cells #[Value.slice none 0 0, Value.slice none 0 0, Value.string { data := #[] }, Value.int IntKind.i64 0, Value.int IntKind.i64 0, Value.int IntKind.i64 0, Value.int IntKind.i64 0] 82)
    rw [size_alloc] at h
    exact blk_drewN h _, pw_below_drewN (below_alloc (below_alloc (Below.refl _ _) _) _) nd⟩
theorem bt_at (s : ByteArray) (p : Nat) (hp : p < s.size) : bt s p = (s[p].toNat : Int) := by
  unfold bt
  simp [hp]
theorem call_keep {W W1 : World} {w : World} {g : Nat} {cs : Array Value} (h : OneAt w W g cs) (hb : Below W.heap.size W W1) : OneAt w W1 g cs :=
  ⟨h.eg, blk_below h.rd hb, blk_below h.res hb, below_step h.bel hb⟩
def one_T7 : Bool × List (List Nat × List Nat) := (true, [([], []), ([0], [0]), ([], []), ([], []), ([], []), ([4], [4]), ([2, 3, 5], [2, 3, 5]), ([1, 6], [1, 6]), ([0, 1, 2, 3, 4, 5, 6, 7], []), ([8, 7, 0, 1, 2, 3, 4, 5, 6, 7], [7, 8])])
def one_B7 : List Nat := [0, 1, 0, 0, 0, 16, 60, 127, 255, 511]
theorem one_tab7 : rtab .any (opsOf Try.f63 7) = one_T7 := by kernel_rfl
theorem one_bits7 : waitsOk one_T7.2 one_B7 = true := by kernel_rfl
def one_T29 : Bool × List (List Nat × List Nat) := (true, [([], []), ([0], [0]), ([], []), ([], []), ([], []), ([4], [4]), ([2, 3, 5], [2, 3, 5]), ([1, 6], [1, 6]), ([0, 1, 2, 3, 4, 5, 6, 7], []), ([8, 7, 0, 1, 2, 3, 4, 5, 6, 7], [7, 8]), ([0, 1, 2, 3, 4, 5, 6, 7, 8, 9], []), ([10, 9, 0, 1, 2, 3, 4, 5, 6, 7, 8, 9], [10])])
def one_B29 : List Nat := [0, 1, 0, 0, 0, 16, 60, 127, 255, 511, 1023, 2047]
theorem one_tab29 : rtab .any (opsOf Try.f63 29) = one_T29 := by kernel_rfl
theorem one_bits29 : waitsOk one_T29.2 one_B29 = true := by kernel_rfl
set_option maxHeartbeats 4000000 in
set_option maxRecDepth 100000 in
theorem one_2q (s : ByteArray) (p : Nat) (d : Int) (A : Option Addr) (c : Nat) (B : Option Addr) (e : Nat) (n m : Nat) (cell : ByteArray) (bg err pl : Int) (w : World) (hp : p < s.size) (hs : s.size ≤ 3000) (hb : bt s p = 34) :
    Calls Try.prog 63 #[.string s, .int .i64 p, .int .u8 d, .agg #[Value.slice A n c, Value.slice B m e, Value.string cell, Value.int IntKind.i64 2, Value.int IntKind.i64 bg, Value.int IntKind.i64 err, Value.int IntKind.i64 pl]] w fun ev w' => ev = .returned (.tuple #[.agg #[Value.slice A n c, Value.slice B m e, Value.string cell, Value.int IntKind.i64 3, Value.int IntKind.i64 bg, Value.int IntKind.i64 err, Value.int IntKind.i64 pl], .int .i64 1]) ∧ Below w.heap.size w w' := by
  have hb2 : (bt s p == 34) = true := by rw [hb]; rfl
  clear hb
  have hp0 : (0 : Int) ≤ p := by omega
  have hp1 : (p : Int) < s.size := by omega
  rw [bt_at s p hp] at *
  have HBr := Lib.hid (ref02_Break_at s p 0 hp (by omega))
  go_enter Try.func63, Try.ntmps63
  go_wp2_with fail
  refine (tartanref02_Break.calls 1 s p _ _ HBr.out).mono ?_
  rintro ev w' ⟨rfl, ⟨nd, rfl⟩⟩
  have HO := Lib.hid (oneAt w #[Value.slice A n c, Value.slice B m e, Value.string cell, Value.int IntKind.i64 2, Value.int IntKind.i64 bg, Value.int IntKind.i64 err, Value.int IntKind.i64 pl] nd)
  generalize hg : w.heap.size = g at HO ⊢
  have HG := Lib.hid hg
  clear hg
  generalize (((w.alloc (Obj.cells #[Value.slice A n c, Value.slice B m e, Value.string cell, Value.int IntKind.i64 2, Value.int IntKind.i64 bg, Value.int IntKind.i64 err, Value.int IntKind.i64 pl] 82)).alloc (Obj.cells #[Value.slice none 0 0, Value.slice none 0 0, Value.string { data := #[] }, Value.int IntKind.i64 0, Value.int IntKind.i64 0, Value.int IntKind.i64 0, Value.int IntKind.i64 0] 82)).drewN nd) = W at HO ⊢
  have c0 := blk_cell HO.out.rd 0
  have f0 := blk_frozen HO.out.rd 0
  have k0 := blk_cell HO.out.res 0
  have l0 := blk_frozen HO.out.res 0
  have c1 := blk_cell HO.out.rd 1
  have f1 := blk_frozen HO.out.rd 1
  have k1 := blk_cell HO.out.res 1
  have l1 := blk_frozen HO.out.res 1
  have c2 := blk_cell HO.out.rd 2
  have f2 := blk_frozen HO.out.rd 2
  have k2 := blk_cell HO.out.res 2
  have l2 := blk_frozen HO.out.res 2
  have c3 := blk_cell HO.out.rd 3
  have f3 := blk_frozen HO.out.rd 3
  have k3 := blk_cell HO.out.res 3
  have l3 := blk_frozen HO.out.res 3
  have c4 := blk_cell HO.out.rd 4
  have f4 := blk_frozen HO.out.rd 4
  have k4 := blk_cell HO.out.res 4
  have l4 := blk_frozen HO.out.res 4
  have c5 := blk_cell HO.out.rd 5
  have f5 := blk_frozen HO.out.rd 5
  have k5 := blk_cell HO.out.res 5
  have l5 := blk_frozen HO.out.res 5
  have c6 := blk_cell HO.out.rd 6
  have f6 := blk_frozen HO.out.rd 6
  have k6 := blk_cell HO.out.res 6
  have l6 := blk_frozen HO.out.res 6
  simp only [List.getElem?_toArray, List.getElem?_cons_zero, List.getElem?_cons_succ] at c0 c1 c2 c3 c4 c5 c6 k0 k1 k2 k3 k4 k5 k6
  have hne : g ≠ g + 1 := by omega
  have hne2 : g + 1 ≠ g := by omega
  go_wp2
  refine bodyPost_ret (results_ct (fn := Try.f63) (p := 8) (u := 9) (ty := 82) rfl _ _ (g + 1) 82 _ (0, 0) _ (by rfl) (by exact seven _ _ _ _ _ _ _ _ _ _ _ _ _ _ _ _ (blk_far (p := ⟨g, 3, none⟩) HO.out.res hne2 _)) Try.underlying82 rfl (by kernel_rfl)) rfl ?_
  exact ⟨rfl, seven_below (below_set HO.out.bel (Nat.le_of_eq HO.out.eg.symm)) (by rw [HO.out.eg]; exact Nat.le_succ _) _ _ _ _ _ _ _⟩
set_option maxHeartbeats 4000000 in
set_option maxRecDepth 100000 in
theorem one_2 (s : ByteArray) (p : Nat) (d : Int) (A : Option Addr) (c : Nat) (B : Option Addr) (e : Nat) (n m : Nat) (cell : ByteArray) (bg err pl : Int) (w : World) (hp : p < s.size) (hs : s.size ≤ 3000) (hb : bt s p ≠ 34) (hc : cell.size ≤ 3000) :
    Calls Try.prog 63 #[.string s, .int .i64 p, .int .u8 d, .agg #[Value.slice A n c, Value.slice B m e, Value.string cell, Value.int IntKind.i64 2, Value.int IntKind.i64 bg, Value.int IntKind.i64 err, Value.int IntKind.i64 pl]] w fun ev w' => ev = .returned (.tuple #[.agg #[Value.slice A n c, Value.slice B m e, Value.string (cell ++ s.extract p (p + 1)), Value.int IntKind.i64 2, Value.int IntKind.i64 bg, Value.int IntKind.i64 err, Value.int IntKind.i64 pl], .int .i64 1]) ∧ Below w.heap.size w w' := by
  have hb2 : (bt s p == 34) = false := beq_eq_false_iff_ne.2 hb
  clear hb
  have hp0 : (0 : Int) ≤ p := by omega
  have hp1 : (p : Int) < s.size := by omega
  rw [bt_at s p hp] at *
  have HBr := Lib.hid (ref02_Break_at s p 0 hp (by omega))
  go_enter Try.func63, Try.ntmps63
  go_wp2_with fail
  refine (tartanref02_Break.calls 1 s p _ _ HBr.out).mono ?_
  rintro ev w' ⟨rfl, ⟨nd, rfl⟩⟩
  have HO := Lib.hid (oneAt w #[Value.slice A n c, Value.slice B m e, Value.string cell, Value.int IntKind.i64 2, Value.int IntKind.i64 bg, Value.int IntKind.i64 err, Value.int IntKind.i64 pl] nd)
  generalize hg : w.heap.size = g at HO ⊢
  have HG := Lib.hid hg
  clear hg
  generalize (((w.alloc (Obj.cells #[Value.slice A n c, Value.slice B m e, Value.string cell, Value.int IntKind.i64 2, Value.int IntKind.i64 bg, Value.int IntKind.i64 err, Value.int IntKind.i64 pl] 82)).alloc (Obj.cells #[Value.slice none 0 0, Value.slice none 0 0, Value.string { data := #[] }, Value.int IntKind.i64 0, Value.int IntKind.i64 0, Value.int IntKind.i64 0, Value.int IntKind.i64 0] 82)).drewN nd) = W at HO ⊢
  have c0 := blk_cell HO.out.rd 0
  have f0 := blk_frozen HO.out.rd 0
  have k0 := blk_cell HO.out.res 0
  have l0 := blk_frozen HO.out.res 0
  have c1 := blk_cell HO.out.rd 1
  have f1 := blk_frozen HO.out.rd 1
  have k1 := blk_cell HO.out.res 1
  have l1 := blk_frozen HO.out.res 1
  have c2 := blk_cell HO.out.rd 2
  have f2 := blk_frozen HO.out.rd 2
  have k2 := blk_cell HO.out.res 2
  have l2 := blk_frozen HO.out.res 2
  have c3 := blk_cell HO.out.rd 3
  have f3 := blk_frozen HO.out.rd 3
  have k3 := blk_cell HO.out.res 3
  have l3 := blk_frozen HO.out.res 3
  have c4 := blk_cell HO.out.rd 4
  have f4 := blk_frozen HO.out.rd 4
  have k4 := blk_cell HO.out.res 4
  have l4 := blk_frozen HO.out.res 4
  have c5 := blk_cell HO.out.rd 5
  have f5 := blk_frozen HO.out.rd 5
  have k5 := blk_cell HO.out.res 5
  have l5 := blk_frozen HO.out.res 5
  have c6 := blk_cell HO.out.rd 6
  have f6 := blk_frozen HO.out.rd 6
  have k6 := blk_cell HO.out.res 6
  have l6 := blk_frozen HO.out.res 6
  simp only [List.getElem?_toArray, List.getElem?_cons_zero, List.getElem?_cons_succ] at c0 c1 c2 c3 c4 c5 c6 k0 k1 k2 k3 k4 k5 k6
  have hne : g ≠ g + 1 := by omega
  have hne2 : g + 1 ≠ g := by omega
  have hb1 : wrap64 ((p : Int) + 1) = (p : Int) + 1 := by rw [show (1 : Int) = ((1 : Nat) : Int) from rfl, wrap_nat p 1 (by omega)]; rfl
  have hz1 : (p : Int) ≤ (p : Int) + 1 := by omega
  have hz2 : (p : Int) + 1 ≤ s.size := by omega
  have hz3 : (0 : Int) ≤ (p : Int) + 1 := by omega
  have hz4 : ((p : Int) + 1).toNat = p + 1 := by omega
  have hq1 : (9223372036854775807 < cell.size + 1) = False := eq_false (by omega)
  have hq2 : (9223372036854775807 < cell.size + (p + 1 - p)) = False := eq_false (by omega)
  have hq3 : (9223372036854775807 < cell.size + (min (p + 1) s.size - p)) = False := eq_false (by omega)
  go_wp2
  clear c0 f0 k0 l0 c1 f1 k1 l1 c2 f2 k2 l2 c3 f3 k3 l3 c4 f4 k4 l4 c5 f5 k5 l5 c6 f6 k6 l6
  have HO1 := Lib.hid (show OneAt w W.drew g _ from ⟨HO.out.eg, blk_drew HO.out.rd, blk_drew HO.out.res, below_drew1 HO.out.bel⟩)
  clear HO
  have HO := HO1
  clear HO1
  refine start_ (n := 10) (S := fun w' => w'.cell? ⟨g, 0, none⟩ = some (.slice A n c) ∧ w'.cell? ⟨g, 1, none⟩ = some (.slice B m e) ∧ w'.cell? ⟨g, 2, none⟩ = some (.string cell) ∧ w'.cell? ⟨g, 3, none⟩ = some (.int .i64 2) ∧ w'.cell? ⟨g, 4, none⟩ = some (.int .i64 bg) ∧ w'.cell? ⟨g, 5, none⟩ = some (.int .i64 err) ∧ w'.cell? ⟨g, 6, none⟩ = some (.int .i64 pl)) (ds := [9]) #[false, false, false, false, false, false, false, false, false, false] (by kernel_rfl) rfl rfl ⟨(blk_cell HO.out.rd 0).trans rfl, (blk_cell HO.out.rd 1).trans rfl, (blk_cell HO.out.rd 2).trans rfl, (blk_cell HO.out.rd 3).trans rfl, (blk_cell HO.out.rd 4).trans rfl, (blk_cell HO.out.rd 5).trans rfl, (blk_cell HO.out.rd 6).trans rfl⟩ (fun hHeld => ?_); refine with_tabW one_tab7 one_bits7 (fun HT_ HW_ => ?_)
  generalize W.drew = W1 at HO hHeld ⊢
  refine pure_ (i := 0) (N := some 25) (v := ?_) (a' := ?_) #[true, false, false, false, false, false, false, false, false, false] rfl rfl (any_of HT_.out (by kernel_rfl)) (fun _ _ _ h => h) (Or.inl ⟨by rfl, ?_⟩) ?_ ?_
  rotate_left
  · intro w'
    go_simp
    with_reducible rfl
  rotate_left
  · simp only [Act.put, List.setIfInBounds_toArray, List.set_cons_zero, List.set_cons_succ, i64_w, i32_w]
    rfl
  refine pure_ (i := 2) (N := some 27) (v := ?_) (a' := ?_) #[true, false, true, false, false, false, false, false, false, false] rfl rfl (any_of HT_.out (by kernel_rfl)) (fun _ _ _ h => h) (Or.inl ⟨by rfl, ?_⟩) ?_ ?_
  rotate_left
  · intro w'
    go_simp
    with_reducible rfl
  rotate_left
  · simp only [Act.put, List.setIfInBounds_toArray, List.set_cons_zero, List.set_cons_succ, i64_w, i32_w]
    rfl
  refine pure_ (i := 3) (N := some 28) (v := ?_) (a' := ?_) #[true, false, true, true, false, false, false, false, false, false] rfl rfl (any_of HT_.out (by kernel_rfl)) (fun _ _ _ h => h) (Or.inl ⟨by rfl, ?_⟩) ?_ ?_
  rotate_left
  · intro w'
    go_simp
    with_reducible rfl
  rotate_left
  · simp only [Act.put, List.setIfInBounds_toArray, List.set_cons_zero, List.set_cons_succ, i64_w, i32_w]
    rfl
  refine pure_ (i := 4) (N := some 29) (v := ?_) (a' := ?_) #[true, false, true, true, true, false, false, false, false, false] rfl rfl (any_of HT_.out (by kernel_rfl)) (fun _ _ _ h => h) (Or.inl ⟨by rfl, ?_⟩) ?_ ?_
  rotate_left
  · intro w'
    go_simp
    with_reducible rfl
  rotate_left
  · simp only [Act.put, List.setIfInBounds_toArray, List.set_cons_zero, List.set_cons_succ, i64_w, i32_w]
    rfl
  refine pure_ (i := 5) (N := some 30) (v := ?_) (a' := ?_) #[true, false, true, true, true, true, false, false, false, false] rfl rfl (any_of HT_.out (by kernel_rfl)) (fun _ _ _ h => h) (Or.inl ⟨by rfl, ?_⟩) ?_ ?_
  rotate_left
  · intro w'
    go_simp
    with_reducible rfl
  rotate_left
  · simp only [Act.put, List.setIfInBounds_toArray, List.set_cons_zero, List.set_cons_succ, i64_w, i32_w]
    rfl
  refine pure_ (i := 6) (N := some 31) (v := ?_) (a' := ?_) #[true, false, true, true, true, true, true, false, false, false] rfl rfl (any_of HT_.out (by kernel_rfl)) (fun _ _ _ h => h) (Or.inl ⟨by rfl, ?_⟩) ?_ ?_
  rotate_left
  · intro w'
    go_simp
    with_reducible rfl
  rotate_left
  · simp only [Act.put, List.setIfInBounds_toArray, List.set_cons_zero, List.set_cons_succ, i64_w, i32_w]
    rfl
  refine take_ (i := 1) (N := some 26) (v := ?_) (a' := ?_) #[true, true, true, true, true, true, true, false, false, false] rfl rfl (take_ofW HT_.out HW_.out (by kernel_rfl)) (fun _ _ _ h => h) (Or.inl ⟨by rfl, ?_⟩) hHeld ?_ ?_
  rotate_left
  · rintro w' ⟨s0, s1, s2, s3, s4, s5, s6⟩
    go_simp
    with_reducible rfl
  rotate_left
  · simp only [Act.put, List.setIfInBounds_toArray, List.set_cons_zero, List.set_cons_succ, i64_w, i32_w]
    rfl
  refine pure_ (i := 7) (N := some 32) (v := ?_) (a' := ?_) #[true, true, true, true, true, true, true, true, false, false] rfl rfl (any_of HT_.out (by kernel_rfl)) (fun _ _ _ h => h) (Or.inl ⟨by rfl, ?_⟩) ?_ ?_
  rotate_left
  · intro w'
    go_simp
    with_reducible rfl
  rotate_left
  · simp only [Act.put, List.setIfInBounds_toArray, List.set_cons_zero, List.set_cons_succ, i64_w, i32_w]
    rfl
  refine pure_ (i := 8) (N := some 33) (v := ?_) (a' := ?_) #[true, true, true, true, true, true, true, true, true, false] rfl rfl (any_of HT_.out (by kernel_rfl)) (fun _ _ _ h => h) (Or.inl ⟨by rfl, ?_⟩) ?_ ?_
  rotate_left
  · intro w'
    go_simp
    with_reducible rfl
  rotate_left
  · simp only [Act.put, List.setIfInBounds_toArray, List.set_cons_zero, List.set_cons_succ, i64_w, i32_w]
    rfl
  refine last_ (i := 9) (N := none) #[true, true, true, true, true, true, true, true, true, true] rfl rfl (one_of HT_.out (by kernel_rfl)) (by decide) (fun K hK => ?_)
  have hs_ := blk_cell HO.out.rd 2
  simp only [List.getElem?_toArray, List.getElem?_cons_zero, List.getElem?_cons_succ] at hs_
  have hfs_ := blk_frozen HO.out.rd 2
  refine skip_ (w1 := ?_) (by rfl) rfl ?_ ?_
  rotate_left
  · go_simp
    rfl
  refine hK.out _ _ ?_
  clear hK K
  refine done_ (done_of HT_.out (by kernel_rfl)) ?_
  have c0 := blk_cell HO.out.rd 0
  have f0 := blk_frozen HO.out.rd 0
  have k0 := blk_cell HO.out.res 0
  have l0 := blk_frozen HO.out.res 0
  have c1 := blk_cell HO.out.rd 1
  have f1 := blk_frozen HO.out.rd 1
  have k1 := blk_cell HO.out.res 1
  have l1 := blk_frozen HO.out.res 1
  have c2 := blk_cell HO.out.rd 2
  have f2 := blk_frozen HO.out.rd 2
  have k2 := blk_cell HO.out.res 2
  have l2 := blk_frozen HO.out.res 2
  have c3 := blk_cell HO.out.rd 3
  have f3 := blk_frozen HO.out.rd 3
  have k3 := blk_cell HO.out.res 3
  have l3 := blk_frozen HO.out.res 3
  have c4 := blk_cell HO.out.rd 4
  have f4 := blk_frozen HO.out.rd 4
  have k4 := blk_cell HO.out.res 4
  have l4 := blk_frozen HO.out.res 4
  have c5 := blk_cell HO.out.rd 5
  have f5 := blk_frozen HO.out.rd 5
  have k5 := blk_cell HO.out.res 5
  have l5 := blk_frozen HO.out.res 5
  have c6 := blk_cell HO.out.rd 6
  have f6 := blk_frozen HO.out.rd 6
  have k6 := blk_cell HO.out.res 6
  have l6 := blk_frozen HO.out.res 6
  simp only [List.getElem?_toArray, List.getElem?_cons_zero, List.getElem?_cons_succ] at c0 c1 c2 c3 c4 c5 c6 k0 k1 k2 k3 k4 k5 k6
  have hne : g ≠ g + 1 := by omega
  have hne2 : g + 1 ≠ g := by omega
  go_wp2
  refine bodyPost_ret (results_ct (fn := Try.f63) (p := 8) (u := 9) (ty := 82) rfl _ _ (g + 1) 82 _ (0, 0) _ (by rfl) (by exact seven _ _ _ _ _ _ _ _ _ _ _ _ _ _ _ _ (blk_far (p := ⟨g, 2, none⟩) HO.out.res hne2 _)) Try.underlying82 rfl (by kernel_rfl)) rfl ?_
  exact ⟨rfl, seven_below (below_set HO.out.bel (Nat.le_of_eq HO.out.eg.symm)) (by rw [HO.out.eg]; exact Nat.le_succ _) _ _ _ _ _ _ _⟩
set_option maxHeartbeats 4000000 in
set_option maxRecDepth 100000 in
theorem one_3q (s : ByteArray) (p : Nat) (d : Int) (A : Option Addr) (c : Nat) (B : Option Addr) (e : Nat) (n m : Nat) (cell : ByteArray) (bg err pl : Int) (w : World) (hp : p < s.size) (hs : s.size ≤ 3000) (hb : bt s p = 34) (hc : cell.size ≤ 3000) :
    Calls Try.prog 63 #[.string s, .int .i64 p, .int .u8 d, .agg #[Value.slice A n c, Value.slice B m e, Value.string cell, Value.int IntKind.i64 3, Value.int IntKind.i64 bg, Value.int IntKind.i64 err, Value.int IntKind.i64 pl]] w fun ev w' => ev = .returned (.tuple #[.agg #[Value.slice A n c, Value.slice B m e, Value.string (cell ++ (⟨#[34]⟩ : ByteArray)), Value.int IntKind.i64 2, Value.int IntKind.i64 bg, Value.int IntKind.i64 err, Value.int IntKind.i64 pl], .int .i64 1]) ∧ Below w.heap.size w w' := by
  have hb2 : (bt s p == 34) = true := by rw [hb]; rfl
  clear hb
  have hp0 : (0 : Int) ≤ p := by omega
  have hp1 : (p : Int) < s.size := by omega
  rw [bt_at s p hp] at *
  have HBr := Lib.hid (ref02_Break_at s p 0 hp (by omega))
  go_enter Try.func63, Try.ntmps63
  go_wp2_with fail
  refine (tartanref02_Break.calls 1 s p _ _ HBr.out).mono ?_
  rintro ev w' ⟨rfl, ⟨nd, rfl⟩⟩
  have HO := Lib.hid (oneAt w #[Value.slice A n c, Value.slice B m e, Value.string cell, Value.int IntKind.i64 3, Value.int IntKind.i64 bg, Value.int IntKind.i64 err, Value.int IntKind.i64 pl] nd)
  generalize hg : w.heap.size = g at HO ⊢
  have HG := Lib.hid hg
  clear hg
  generalize (((w.alloc (Obj.cells #[Value.slice A n c, Value.slice B m e, Value.string cell, Value.int IntKind.i64 3, Value.int IntKind.i64 bg, Value.int IntKind.i64 err, Value.int IntKind.i64 pl] 82)).alloc (Obj.cells #[Value.slice none 0 0, Value.slice none 0 0, Value.string { data := #[] }, Value.int IntKind.i64 0, Value.int IntKind.i64 0, Value.int IntKind.i64 0, Value.int IntKind.i64 0] 82)).drewN nd) = W at HO ⊢
  have c0 := blk_cell HO.out.rd 0
  have f0 := blk_frozen HO.out.rd 0
  have k0 := blk_cell HO.out.res 0
  have l0 := blk_frozen HO.out.res 0
  have c1 := blk_cell HO.out.rd 1
  have f1 := blk_frozen HO.out.rd 1
  have k1 := blk_cell HO.out.res 1
  have l1 := blk_frozen HO.out.res 1
  have c2 := blk_cell HO.out.rd 2
  have f2 := blk_frozen HO.out.rd 2
  have k2 := blk_cell HO.out.res 2
  have l2 := blk_frozen HO.out.res 2
  have c3 := blk_cell HO.out.rd 3
  have f3 := blk_frozen HO.out.rd 3
  have k3 := blk_cell HO.out.res 3
  have l3 := blk_frozen HO.out.res 3
  have c4 := blk_cell HO.out.rd 4
  have f4 := blk_frozen HO.out.rd 4
  have k4 := blk_cell HO.out.res 4
  have l4 := blk_frozen HO.out.res 4
  have c5 := blk_cell HO.out.rd 5
  have f5 := blk_frozen HO.out.rd 5
  have k5 := blk_cell HO.out.res 5
  have l5 := blk_frozen HO.out.res 5
  have c6 := blk_cell HO.out.rd 6
  have f6 := blk_frozen HO.out.rd 6
  have k6 := blk_cell HO.out.res 6
  have l6 := blk_frozen HO.out.res 6
  simp only [List.getElem?_toArray, List.getElem?_cons_zero, List.getElem?_cons_succ] at c0 c1 c2 c3 c4 c5 c6 k0 k1 k2 k3 k4 k5 k6
  have hne : g ≠ g + 1 := by omega
  have hne2 : g + 1 ≠ g := by omega
  have hq1 : (9223372036854775807 < cell.size + 1) = False := eq_false (by omega)
  have hq4 : (⟨#[34]⟩ : ByteArray).size = 1 := rfl
  go_wp2
  refine bodyPost_ret (results_ct (fn := Try.f63) (p := 8) (u := 9) (ty := 82) rfl _ _ (g + 1) 82 _ (0, 0) _ (by rfl) (by exact seven _ _ _ _ _ _ _ _ _ _ _ _ _ _ _ _ (blk_far (p := ⟨g, 3, none⟩) (blk_far (p := ⟨g, 2, none⟩) HO.out.res hne2 _) hne2 _)) Try.underlying82 rfl (by kernel_rfl)) rfl ?_
  exact ⟨rfl, seven_below (below_set (below_set HO.out.bel (Nat.le_of_eq HO.out.eg.symm)) (Nat.le_of_eq HO.out.eg.symm)) (by rw [HO.out.eg]; exact Nat.le_succ _) _ _ _ _ _ _ _⟩
set_option maxHeartbeats 4000000 in
set_option maxRecDepth 100000 in
theorem one_0q (s : ByteArray) (p : Nat) (d : Int) (A : Option Addr) (c : Nat) (B : Option Addr) (e : Nat) (n m : Nat) (cell : ByteArray) (bg err pl : Int) (w : World) (hp : p < s.size) (hs : s.size ≤ 3000) (hb : bt s p = 34) (hd : bt s p ≠ d) (hn0 : breakR ((toBs s).drop p) = 0) :
    Calls Try.prog 63 #[.string s, .int .i64 p, .int .u8 d, .agg #[Value.slice A n c, Value.slice B m e, Value.string cell, Value.int IntKind.i64 0, Value.int IntKind.i64 bg, Value.int IntKind.i64 err, Value.int IntKind.i64 pl]] w fun ev w' => ev = .returned (.tuple #[.agg #[Value.slice A n c, Value.slice B m e, Value.string cell, Value.int IntKind.i64 2, Value.int IntKind.i64 bg, Value.int IntKind.i64 err, Value.int IntKind.i64 pl], .int .i64 1]) ∧ Below w.heap.size w w' := by
  have hbd2 : ((34 : Int) == d) = false := beq_eq_false_iff_ne.2 (by rw [← hb]; exact hd)
  have hbd : (bt s p == d) = false := beq_eq_false_iff_ne.2 hd
  clear hd
  have hb2 : (bt s p == 34) = true := by rw [hb]; rfl
  clear hb
  have hp0 : (0 : Int) ≤ p := by omega
  have hp1 : (p : Int) < s.size := by omega
  rw [bt_at s p hp] at *
  have HBr := Lib.hid (show tartanref02_Break.f 1 s p = some (0 : Int) by rw [ref02_Break_at s p 0 hp (by omega), hn0]; rfl)
  clear hn0
  go_enter Try.func63, Try.ntmps63
  go_wp2_with fail
  refine (tartanref02_Break.calls 1 s p _ _ HBr.out).mono ?_
  rintro ev w' ⟨rfl, ⟨nd, rfl⟩⟩
  have HO := Lib.hid (oneAt w #[Value.slice A n c, Value.slice B m e, Value.string cell, Value.int IntKind.i64 0, Value.int IntKind.i64 bg, Value.int IntKind.i64 err, Value.int IntKind.i64 pl] nd)
  generalize hg : w.heap.size = g at HO ⊢
  have HG := Lib.hid hg
  clear hg
  generalize (((w.alloc (Obj.cells #[Value.slice A n c, Value.slice B m e, Value.string cell, Value.int IntKind.i64 0, Value.int IntKind.i64 bg, Value.int IntKind.i64 err, Value.int IntKind.i64 pl] 82)).alloc (Obj.cells #[Value.slice none 0 0, Value.slice none 0 0, Value.string { data := #[] }, Value.int IntKind.i64 0, Value.int IntKind.i64 0, Value.int IntKind.i64 0, Value.int IntKind.i64 0] 82)).drewN nd) = W at HO ⊢
  have c0 := blk_cell HO.out.rd 0
  have f0 := blk_frozen HO.out.rd 0
  have k0 := blk_cell HO.out.res 0
  have l0 := blk_frozen HO.out.res 0
  have c1 := blk_cell HO.out.rd 1
  have f1 := blk_frozen HO.out.rd 1
  have k1 := blk_cell HO.out.res 1
  have l1 := blk_frozen HO.out.res 1
  have c2 := blk_cell HO.out.rd 2
  have f2 := blk_frozen HO.out.rd 2
  have k2 := blk_cell HO.out.res 2
  have l2 := blk_frozen HO.out.res 2
  have c3 := blk_cell HO.out.rd 3
  have f3 := blk_frozen HO.out.rd 3
  have k3 := blk_cell HO.out.res 3
  have l3 := blk_frozen HO.out.res 3
  have c4 := blk_cell HO.out.rd 4
  have f4 := blk_frozen HO.out.rd 4
  have k4 := blk_cell HO.out.res 4
  have l4 := blk_frozen HO.out.res 4
  have c5 := blk_cell HO.out.rd 5
  have f5 := blk_frozen HO.out.rd 5
  have k5 := blk_cell HO.out.res 5
  have l5 := blk_frozen HO.out.res 5
  have c6 := blk_cell HO.out.rd 6
  have f6 := blk_frozen HO.out.rd 6
  have k6 := blk_cell HO.out.res 6
  have l6 := blk_frozen HO.out.res 6
  simp only [List.getElem?_toArray, List.getElem?_cons_zero, List.getElem?_cons_succ] at c0 c1 c2 c3 c4 c5 c6 k0 k1 k2 k3 k4 k5 k6
  have hne : g ≠ g + 1 := by omega
  have hne2 : g + 1 ≠ g := by omega
  go_wp2
  refine bodyPost_ret (results_ct (fn := Try.f63) (p := 8) (u := 9) (ty := 82) rfl _ _ (g + 1) 82 _ (0, 0) _ (by rfl) (by exact seven _ _ _ _ _ _ _ _ _ _ _ _ _ _ _ _ (blk_far (p := ⟨g, 3, none⟩) HO.out.res hne2 _)) Try.underlying82 rfl (by kernel_rfl)) rfl ?_
  exact ⟨rfl, seven_below (below_set HO.out.bel (Nat.le_of_eq HO.out.eg.symm)) (by rw [HO.out.eg]; exact Nat.le_succ _) _ _ _ _ _ _ _⟩
set_option maxHeartbeats 4000000 in
set_option maxRecDepth 100000 in
theorem one_plain0 (s : ByteArray) (p : Nat) (d : Int) (A : Option Addr) (c : Nat) (B : Option Addr) (e : Nat) (n m : Nat) (cell : ByteArray) (bg err pl : Int) (w : World) (hp : p < s.size) (hs : s.size ≤ 3000) (hb : bt s p ≠ 34) (hd : bt s p ≠ d) (hn0 : breakR ((toBs s).drop p) = 0) (h13 : bt s p ≠ 13) (hc : cell.size ≤ 3000) :
    Calls Try.prog 63 #[.string s, .int .i64 p, .int .u8 d, .agg #[Value.slice A n c, Value.slice B m e, Value.string cell, Value.int IntKind.i64 0, Value.int IntKind.i64 bg, Value.int IntKind.i64 err, Value.int IntKind.i64 pl]] w fun ev w' => ev = .returned (.tuple #[.agg #[Value.slice A n c, Value.slice B m e, Value.string (cell ++ s.extract p (p + 1)), Value.int IntKind.i64 1, Value.int IntKind.i64 bg, Value.int IntKind.i64 err, Value.int IntKind.i64 pl], .int .i64 1]) ∧ Below w.heap.size w w' := by
  have hbd : (bt s p == d) = false := beq_eq_false_iff_ne.2 hd
  clear hd
  have hb2 : (bt s p == 34) = false := beq_eq_false_iff_ne.2 hb
  clear hb
  have hb13 : (bt s p == 13) = false := beq_eq_false_iff_ne.2 h13
  clear h13
  have hp0 : (0 : Int) ≤ p := by omega
  have hp1 : (p : Int) < s.size := by omega
  rw [bt_at s p hp] at *
  have HBr := Lib.hid (show tartanref02_Break.f 1 s p = some (0 : Int) by rw [ref02_Break_at s p 0 hp (by omega), hn0]; rfl)
  clear hn0
  go_enter Try.func63, Try.ntmps63
  go_wp2_with fail
  refine (tartanref02_Break.calls 1 s p _ _ HBr.out).mono ?_
  rintro ev w' ⟨rfl, ⟨nd, rfl⟩⟩
  have HO := Lib.hid (oneAt w #[Value.slice A n c, Value.slice B m e, Value.string cell, Value.int IntKind.i64 0, Value.int IntKind.i64 bg, Value.int IntKind.i64 err, Value.int IntKind.i64 pl] nd)
  generalize hg : w.heap.size = g at HO ⊢
  have HG := Lib.hid hg
  clear hg
  generalize (((w.alloc (Obj.cells #[Value.slice A n c, Value.slice B m e, Value.string cell, Value.int IntKind.i64 0, Value.int IntKind.i64 bg, Value.int IntKind.i64 err, Value.int IntKind.i64 pl] 82)).alloc (Obj.cells #[Value.slice none 0 0, Value.slice none 0 0, Value.string { data := #[] }, Value.int IntKind.i64 0, Value.int IntKind.i64 0, Value.int IntKind.i64 0, Value.int IntKind.i64 0] 82)).drewN nd) = W at HO ⊢
  have c0 := blk_cell HO.out.rd 0
  have f0 := blk_frozen HO.out.rd 0
  have k0 := blk_cell HO.out.res 0
  have l0 := blk_frozen HO.out.res 0
  have c1 := blk_cell HO.out.rd 1
  have f1 := blk_frozen HO.out.rd 1
  have k1 := blk_cell HO.out.res 1
  have l1 := blk_frozen HO.out.res 1
  have c2 := blk_cell HO.out.rd 2
  have f2 := blk_frozen HO.out.rd 2
  have k2 := blk_cell HO.out.res 2
  have l2 := blk_frozen HO.out.res 2
  have c3 := blk_cell HO.out.rd 3
  have f3 := blk_frozen HO.out.rd 3
  have k3 := blk_cell HO.out.res 3
  have l3 := blk_frozen HO.out.res 3
  have c4 := blk_cell HO.out.rd 4
  have f4 := blk_frozen HO.out.rd 4
  have k4 := blk_cell HO.out.res 4
  have l4 := blk_frozen HO.out.res 4
  have c5 := blk_cell HO.out.rd 5
  have f5 := blk_frozen HO.out.rd 5
  have k5 := blk_cell HO.out.res 5
  have l5 := blk_frozen HO.out.res 5
  have c6 := blk_cell HO.out.rd 6
  have f6 := blk_frozen HO.out.rd 6
  have k6 := blk_cell HO.out.res 6
  have l6 := blk_frozen HO.out.res 6
  simp only [List.getElem?_toArray, List.getElem?_cons_zero, List.getElem?_cons_succ] at c0 c1 c2 c3 c4 c5 c6 k0 k1 k2 k3 k4 k5 k6
  have hne : g ≠ g + 1 := by omega
  have hne2 : g + 1 ≠ g := by omega
  have hb1 : wrap64 ((p : Int) + 1) = (p : Int) + 1 := by rw [show (1 : Int) = ((1 : Nat) : Int) from rfl, wrap_nat p 1 (by omega)]; rfl
  have hz1 : (p : Int) ≤ (p : Int) + 1 := by omega
  have hz2 : (p : Int) + 1 ≤ s.size := by omega
  have hz3 : (0 : Int) ≤ (p : Int) + 1 := by omega
  have hz4 : ((p : Int) + 1).toNat = p + 1 := by omega
  have hq1 : (9223372036854775807 < cell.size + 1) = False := eq_false (by omega)
  have hq2 : (9223372036854775807 < cell.size + (p + 1 - p)) = False := eq_false (by omega)
  have hq3 : (9223372036854775807 < cell.size + (min (p + 1) s.size - p)) = False := eq_false (by omega)
  go_wp2
  clear c0 f0 k0 l0 c1 f1 k1 l1 c2 f2 k2 l2 c3 f3 k3 l3 c4 f4 k4 l4 c5 f5 k5 l5 c6 f6 k6 l6
  have HO1 := Lib.hid (show OneAt w W.drew g _ from ⟨HO.out.eg, blk_drew HO.out.rd, blk_drew HO.out.res, below_drew1 HO.out.bel⟩)
  clear HO
  have HO := HO1
  clear HO1
  refine start_ (n := 12) (S := fun w' => w'.cell? ⟨g, 0, none⟩ = some (.slice A n c) ∧ w'.cell? ⟨g, 1, none⟩ = some (.slice B m e) ∧ w'.cell? ⟨g, 2, none⟩ = some (.string cell) ∧ w'.cell? ⟨g, 3, none⟩ = some (.int .i64 0) ∧ w'.cell? ⟨g, 4, none⟩ = some (.int .i64 bg) ∧ w'.cell? ⟨g, 5, none⟩ = some (.int .i64 err) ∧ w'.cell? ⟨g, 6, none⟩ = some (.int .i64 pl)) (ds := [9, 11]) #[false, false, false, false, false, false, false, false, false, false, false, false] (by kernel_rfl) rfl rfl ⟨(blk_cell HO.out.rd 0).trans rfl, (blk_cell HO.out.rd 1).trans rfl, (blk_cell HO.out.rd 2).trans rfl, (blk_cell HO.out.rd 3).trans rfl, (blk_cell HO.out.rd 4).trans rfl, (blk_cell HO.out.rd 5).trans rfl, (blk_cell HO.out.rd 6).trans rfl⟩ (fun hHeld => ?_); refine with_tabW one_tab29 one_bits29 (fun HT_ HW_ => ?_)
  generalize W.drew = W1 at HO hHeld ⊢
  refine pure_ (i := 0) (N := some 92) (v := ?_) (a' := ?_) #[true, false, false, false, false, false, false, false, false, false, false, false] rfl rfl (any_of HT_.out (by kernel_rfl)) (fun _ _ _ h => h) (Or.inl ⟨by rfl, ?_⟩) ?_ ?_
  rotate_left
  · intro w'
    go_simp
    with_reducible rfl
  rotate_left
  · simp only [Act.put, List.setIfInBounds_toArray, List.set_cons_zero, List.set_cons_succ, i64_w, i32_w]
    rfl
  refine pure_ (i := 2) (N := some 94) (v := ?_) (a' := ?_) #[true, false, true, false, false, false, false, false, false, false, false, false] rfl rfl (any_of HT_.out (by kernel_rfl)) (fun _ _ _ h => h) (Or.inl ⟨by rfl, ?_⟩) ?_ ?_
  rotate_left
  · intro w'
    go_simp
    with_reducible rfl
  rotate_left
  · simp only [Act.put, List.setIfInBounds_toArray, List.set_cons_zero, List.set_cons_succ, i64_w, i32_w]
    rfl
  refine pure_ (i := 3) (N := some 95) (v := ?_) (a' := ?_) #[true, false, true, true, false, false, false, false, false, false, false, false] rfl rfl (any_of HT_.out (by kernel_rfl)) (fun _ _ _ h => h) (Or.inl ⟨by rfl, ?_⟩) ?_ ?_
  rotate_left
  · intro w'
    go_simp
    with_reducible rfl
  rotate_left
  · simp only [Act.put, List.setIfInBounds_toArray, List.set_cons_zero, List.set_cons_succ, i64_w, i32_w]
    rfl
  refine pure_ (i := 4) (N := some 96) (v := ?_) (a' := ?_) #[true, false, true, true, true, false, false, false, false, false, false, false] rfl rfl (any_of HT_.out (by kernel_rfl)) (fun _ _ _ h => h) (Or.inl ⟨by rfl, ?_⟩) ?_ ?_
  rotate_left
  · intro w'
    go_simp
    with_reducible rfl
  rotate_left
  · simp only [Act.put, List.setIfInBounds_toArray, List.set_cons_zero, List.set_cons_succ, i64_w, i32_w]
    rfl
  refine pure_ (i := 5) (N := some 97) (v := ?_) (a' := ?_) #[true, false, true, true, true, true, false, false, false, false, false, false] rfl rfl (any_of HT_.out (by kernel_rfl)) (fun _ _ _ h => h) (Or.inl ⟨by rfl, ?_⟩) ?_ ?_
  rotate_left
  · intro w'
    go_simp
    with_reducible rfl
  rotate_left
  · simp only [Act.put, List.setIfInBounds_toArray, List.set_cons_zero, List.set_cons_succ, i64_w, i32_w]
    rfl
  refine pure_ (i := 6) (N := some 98) (v := ?_) (a' := ?_) #[true, false, true, true, true, true, true, false, false, false, false, false] rfl rfl (any_of HT_.out (by kernel_rfl)) (fun _ _ _ h => h) (Or.inl ⟨by rfl, ?_⟩) ?_ ?_
  rotate_left
  · intro w'
    go_simp
    with_reducible rfl
  rotate_left
  · simp only [Act.put, List.setIfInBounds_toArray, List.set_cons_zero, List.set_cons_succ, i64_w, i32_w]
    rfl
  refine take_ (i := 1) (N := some 93) (v := ?_) (a' := ?_) #[true, true, true, true, true, true, true, false, false, false, false, false] rfl rfl (take_ofW HT_.out HW_.out (by kernel_rfl)) (fun _ _ _ h => h) (Or.inl ⟨by rfl, ?_⟩) hHeld ?_ ?_
  rotate_left
  · rintro w' ⟨s0, s1, s2, s3, s4, s5, s6⟩
    go_simp
    with_reducible rfl
  rotate_left
  · simp only [Act.put, List.setIfInBounds_toArray, List.set_cons_zero, List.set_cons_succ, i64_w, i32_w]
    rfl
  refine pure_ (i := 7) (N := some 99) (v := ?_) (a' := ?_) #[true, true, true, true, true, true, true, true, false, false, false, false] rfl rfl (any_of HT_.out (by kernel_rfl)) (fun _ _ _ h => h) (Or.inl ⟨by rfl, ?_⟩) ?_ ?_
  rotate_left
  · intro w'
    go_simp
    with_reducible rfl
  rotate_left
  · simp only [Act.put, List.setIfInBounds_toArray, List.set_cons_zero, List.set_cons_succ, i64_w, i32_w]
    rfl
  refine pure_ (i := 8) (N := some 100) (v := ?_) (a' := ?_) #[true, true, true, true, true, true, true, true, true, false, false, false] rfl rfl (any_of HT_.out (by kernel_rfl)) (fun _ _ _ h => h) (Or.inl ⟨by rfl, ?_⟩) ?_ ?_
  rotate_left
  · intro w'
    go_simp
    with_reducible rfl
  rotate_left
  · simp only [Act.put, List.setIfInBounds_toArray, List.set_cons_zero, List.set_cons_succ, i64_w, i32_w]
    rfl
  refine last_ (i := 9) (N := none) #[true, true, true, true, true, true, true, true, true, true, false, false] rfl rfl (one_of HT_.out (by kernel_rfl)) (by decide) (fun K hK => ?_)
  have hs_ := blk_cell HO.out.rd 2
  simp only [List.getElem?_toArray, List.getElem?_cons_zero, List.getElem?_cons_succ] at hs_
  have hfs_ := blk_frozen HO.out.rd 2
  refine skip_ (w1 := ?_) (by rfl) rfl ?_ ?_
  rotate_left
  · go_simp
    rfl
  refine hK.out _ _ ?_
  clear hK K
  refine pure_ (i := 10) (N := some 101) (v := ?_) (a' := ?_) #[true, true, true, true, true, true, true, true, true, true, true, false] rfl rfl (any_of HT_.out (by kernel_rfl)) (fun _ _ _ h => h) (Or.inl ⟨by rfl, ?_⟩) ?_ ?_
  rotate_left
  · intro w'
    go_simp
    with_reducible rfl
  rotate_left
  · simp only [Act.put, List.setIfInBounds_toArray, List.set_cons_zero, List.set_cons_succ, i64_w, i32_w]
    rfl
  refine last_ (i := 11) (N := none) #[true, true, true, true, true, true, true, true, true, true, true, true] rfl rfl (one_of HT_.out (by kernel_rfl)) (by decide) (fun K hK => ?_)
  have hs_ := blk_cell HO.out.rd 3
  simp only [List.getElem?_toArray, List.getElem?_cons_zero, List.getElem?_cons_succ] at hs_
  have hfs_ := blk_frozen HO.out.rd 3
  refine skip_ (w1 := ?_) (by rfl) rfl ?_ ?_
  rotate_left
  · go_simp
    rfl
  refine hK.out _ _ ?_
  clear hK K
  refine done_ (done_of HT_.out (by kernel_rfl)) ?_
  have c0 := blk_cell HO.out.rd 0
  have f0 := blk_frozen HO.out.rd 0
  have k0 := blk_cell HO.out.res 0
  have l0 := blk_frozen HO.out.res 0
  have c1 := blk_cell HO.out.rd 1
  have f1 := blk_frozen HO.out.rd 1
  have k1 := blk_cell HO.out.res 1
  have l1 := blk_frozen HO.out.res 1
  have c2 := blk_cell HO.out.rd 2
  have f2 := blk_frozen HO.out.rd 2
  have k2 := blk_cell HO.out.res 2
  have l2 := blk_frozen HO.out.res 2
  have c3 := blk_cell HO.out.rd 3
  have f3 := blk_frozen HO.out.rd 3
  have k3 := blk_cell HO.out.res 3
  have l3 := blk_frozen HO.out.res 3
  have c4 := blk_cell HO.out.rd 4
  have f4 := blk_frozen HO.out.rd 4
  have k4 := blk_cell HO.out.res 4
  have l4 := blk_frozen HO.out.res 4
  have c5 := blk_cell HO.out.rd 5
  have f5 := blk_frozen HO.out.rd 5
  have k5 := blk_cell HO.out.res 5
  have l5 := blk_frozen HO.out.res 5
  have c6 := blk_cell HO.out.rd 6
  have f6 := blk_frozen HO.out.rd 6
  have k6 := blk_cell HO.out.res 6
  have l6 := blk_frozen HO.out.res 6
  simp only [List.getElem?_toArray, List.getElem?_cons_zero, List.getElem?_cons_succ] at c0 c1 c2 c3 c4 c5 c6 k0 k1 k2 k3 k4 k5 k6
  have hne : g ≠ g + 1 := by omega
  have hne2 : g + 1 ≠ g := by omega
  go_wp2
  refine bodyPost_ret (results_ct (fn := Try.f63) (p := 8) (u := 9) (ty := 82) rfl _ _ (g + 1) 82 _ (0, 0) _ (by rfl) (by exact seven _ _ _ _ _ _ _ _ _ _ _ _ _ _ _ _ (blk_far (p := ⟨g, 3, none⟩) (blk_far (p := ⟨g, 2, none⟩) HO.out.res hne2 _) hne2 _)) Try.underlying82 rfl (by kernel_rfl)) rfl ?_
  exact ⟨rfl, seven_below (below_set (below_set HO.out.bel (Nat.le_of_eq HO.out.eg.symm)) (Nat.le_of_eq HO.out.eg.symm)) (by rw [HO.out.eg]; exact Nat.le_succ _) _ _ _ _ _ _ _⟩
set_option maxHeartbeats 4000000 in
set_option maxRecDepth 100000 in
theorem one_plain1 (s : ByteArray) (p : Nat) (d : Int) (A : Option Addr) (c : Nat) (B : Option Addr) (e : Nat) (n m : Nat) (cell : ByteArray) (bg err pl : Int) (w : World) (hp : p < s.size) (hs : s.size ≤ 3000) (hb : bt s p ≠ 34) (hd : bt s p ≠ d) (hn0 : breakR ((toBs s).drop p) = 0) (h13 : bt s p ≠ 13) (hc : cell.size ≤ 3000) :
    Calls Try.prog 63 #[.string s, .int .i64 p, .int .u8 d, .agg #[Value.slice A n c, Value.slice B m e, Value.string cell, Value.int IntKind.i64 1, Value.int IntKind.i64 bg, Value.int IntKind.i64 err, Value.int IntKind.i64 pl]] w fun ev w' => ev = .returned (.tuple #[.agg #[Value.slice A n c, Value.slice B m e, Value.string (cell ++ s.extract p (p + 1)), Value.int IntKind.i64 1, Value.int IntKind.i64 bg, Value.int IntKind.i64 err, Value.int IntKind.i64 pl], .int .i64 1]) ∧ Below w.heap.size w w' := by
  have hbd : (bt s p == d) = false := beq_eq_false_iff_ne.2 hd
  clear hd
  have hb2 : (bt s p == 34) = false := beq_eq_false_iff_ne.2 hb
  clear hb
  have hb13 : (bt s p == 13) = false := beq_eq_false_iff_ne.2 h13
  clear h13
  have hp0 : (0 : Int) ≤ p := by omega
  have hp1 : (p : Int) < s.size := by omega
  rw [bt_at s p hp] at *
  have HBr := Lib.hid (show tartanref02_Break.f 1 s p = some (0 : Int) by rw [ref02_Break_at s p 0 hp (by omega), hn0]; rfl)
  clear hn0
  go_enter Try.func63, Try.ntmps63
  go_wp2_with fail
  refine (tartanref02_Break.calls 1 s p _ _ HBr.out).mono ?_
  rintro ev w' ⟨rfl, ⟨nd, rfl⟩⟩
  have HO := Lib.hid (oneAt w #[Value.slice A n c, Value.slice B m e, Value.string cell, Value.int IntKind.i64 1, Value.int IntKind.i64 bg, Value.int IntKind.i64 err, Value.int IntKind.i64 pl] nd)
  generalize hg : w.heap.size = g at HO ⊢
  have HG := Lib.hid hg
  clear hg
  generalize (((w.alloc (Obj.cells #[Value.slice A n c, Value.slice B m e, Value.string cell, Value.int IntKind.i64 1, Value.int IntKind.i64 bg, Value.int IntKind.i64 err, Value.int IntKind.i64 pl] 82)).alloc (Obj.cells #[Value.slice none 0 0, Value.slice none 0 0, Value.string { data := #[] }, Value.int IntKind.i64 0, Value.int IntKind.i64 0, Value.int IntKind.i64 0, Value.int IntKind.i64 0] 82)).drewN nd) = W at HO ⊢
  have c0 := blk_cell HO.out.rd 0
  have f0 := blk_frozen HO.out.rd 0
  have k0 := blk_cell HO.out.res 0
  have l0 := blk_frozen HO.out.res 0
  have c1 := blk_cell HO.out.rd 1
  have f1 := blk_frozen HO.out.rd 1
  have k1 := blk_cell HO.out.res 1
  have l1 := blk_frozen HO.out.res 1
  have c2 := blk_cell HO.out.rd 2
  have f2 := blk_frozen HO.out.rd 2
  have k2 := blk_cell HO.out.res 2
  have l2 := blk_frozen HO.out.res 2
  have c3 := blk_cell HO.out.rd 3
  have f3 := blk_frozen HO.out.rd 3
  have k3 := blk_cell HO.out.res 3
  have l3 := blk_frozen HO.out.res 3
  have c4 := blk_cell HO.out.rd 4
  have f4 := blk_frozen HO.out.rd 4
  have k4 := blk_cell HO.out.res 4
  have l4 := blk_frozen HO.out.res 4
  have c5 := blk_cell HO.out.rd 5
  have f5 := blk_frozen HO.out.rd 5
  have k5 := blk_cell HO.out.res 5
  have l5 := blk_frozen HO.out.res 5
  have c6 := blk_cell HO.out.rd 6
  have f6 := blk_frozen HO.out.rd 6
  have k6 := blk_cell HO.out.res 6
  have l6 := blk_frozen HO.out.res 6
  simp only [List.getElem?_toArray, List.getElem?_cons_zero, List.getElem?_cons_succ] at c0 c1 c2 c3 c4 c5 c6 k0 k1 k2 k3 k4 k5 k6
  have hne : g ≠ g + 1 := by omega
  have hne2 : g + 1 ≠ g := by omega
  have hb1 : wrap64 ((p : Int) + 1) = (p : Int) + 1 := by rw [show (1 : Int) = ((1 : Nat) : Int) from rfl, wrap_nat p 1 (by omega)]; rfl
  have hz1 : (p : Int) ≤ (p : Int) + 1 := by omega
  have hz2 : (p : Int) + 1 ≤ s.size := by omega
  have hz3 : (0 : Int) ≤ (p : Int) + 1 := by omega
  have hz4 : ((p : Int) + 1).toNat = p + 1 := by omega
  have hq1 : (9223372036854775807 < cell.size + 1) = False := eq_false (by omega)
  have hq2 : (9223372036854775807 < cell.size + (p + 1 - p)) = False := eq_false (by omega)
  have hq3 : (9223372036854775807 < cell.size + (min (p + 1) s.size - p)) = False := eq_false (by omega)
  go_wp2
  clear c0 f0 k0 l0 c1 f1 k1 l1 c2 f2 k2 l2 c3 f3 k3 l3 c4 f4 k4 l4 c5 f5 k5 l5 c6 f6 k6 l6
  have HO1 := Lib.hid (show OneAt w W.drew g _ from ⟨HO.out.eg, blk_drew HO.out.rd, blk_drew HO.out.res, below_drew1 HO.out.bel⟩)
  clear HO
  have HO := HO1
  clear HO1
  refine start_ (n := 12) (S := fun w' => w'.cell? ⟨g, 0, none⟩ = some (.slice A n c) ∧ w'.cell? ⟨g, 1, none⟩ = some (.slice B m e) ∧ w'.cell? ⟨g, 2, none⟩ = some (.string cell) ∧ w'.cell? ⟨g, 3, none⟩ = some (.int .i64 1) ∧ w'.cell? ⟨g, 4, none⟩ = some (.int .i64 bg) ∧ w'.cell? ⟨g, 5, none⟩ = some (.int .i64 err) ∧ w'.cell? ⟨g, 6, none⟩ = some (.int .i64 pl)) (ds := [9, 11]) #[false, false, false, false, false, false, false, false, false, false, false, false] (by kernel_rfl) rfl rfl ⟨(blk_cell HO.out.rd 0).trans rfl, (blk_cell HO.out.rd 1).trans rfl, (blk_cell HO.out.rd 2).trans rfl, (blk_cell HO.out.rd 3).trans rfl, (blk_cell HO.out.rd 4).trans rfl, (blk_cell HO.out.rd 5).trans rfl, (blk_cell HO.out.rd 6).trans rfl⟩ (fun hHeld => ?_); refine with_tabW one_tab29 one_bits29 (fun HT_ HW_ => ?_)
  generalize W.drew = W1 at HO hHeld ⊢
  refine pure_ (i := 0) (N := some 92) (v := ?_) (a' := ?_) #[true, false, false, false, false, false, false, false, false, false, false, false] rfl rfl (any_of HT_.out (by kernel_rfl)) (fun _ _ _ h => h) (Or.inl ⟨by rfl, ?_⟩) ?_ ?_
  rotate_left
  · intro w'
    go_simp
    with_reducible rfl
  rotate_left
  · simp only [Act.put, List.setIfInBounds_toArray, List.set_cons_zero, List.set_cons_succ, i64_w, i32_w]
    rfl
  refine pure_ (i := 2) (N := some 94) (v := ?_) (a' := ?_) #[true, false, true, false, false, false, false, false, false, false, false, false] rfl rfl (any_of HT_.out (by kernel_rfl)) (fun _ _ _ h => h) (Or.inl ⟨by rfl, ?_⟩) ?_ ?_
  rotate_left
  · intro w'
    go_simp
    with_reducible rfl
  rotate_left
  · simp only [Act.put, List.setIfInBounds_toArray, List.set_cons_zero, List.set_cons_succ, i64_w, i32_w]
    rfl
  refine pure_ (i := 3) (N := some 95) (v := ?_) (a' := ?_) #[true, false, true, true, false, false, false, false, false, false, false, false] rfl rfl (any_of HT_.out (by kernel_rfl)) (fun _ _ _ h => h) (Or.inl ⟨by rfl, ?_⟩) ?_ ?_
  rotate_left
  · intro w'
    go_simp
    with_reducible rfl
  rotate_left
  · simp only [Act.put, List.setIfInBounds_toArray, List.set_cons_zero, List.set_cons_succ, i64_w, i32_w]
    rfl
  refine pure_ (i := 4) (N := some 96) (v := ?_) (a' := ?_) #[true, false, true, true, true, false, false, false, false, false, false, false] rfl rfl (any_of HT_.out (by kernel_rfl)) (fun _ _ _ h => h) (Or.inl ⟨by rfl, ?_⟩) ?_ ?_
  rotate_left
  · intro w'
    go_simp
    with_reducible rfl
  rotate_left
  · simp only [Act.put, List.setIfInBounds_toArray, List.set_cons_zero, List.set_cons_succ, i64_w, i32_w]
    rfl
  refine pure_ (i := 5) (N := some 97) (v := ?_) (a' := ?_) #[true, false, true, true, true, true, false, false, false, false, false, false] rfl rfl (any_of HT_.out (by kernel_rfl)) (fun _ _ _ h => h) (Or.inl ⟨by rfl, ?_⟩) ?_ ?_
  rotate_left
  · intro w'
    go_simp
    with_reducible rfl
  rotate_left
  · simp only [Act.put, List.setIfInBounds_toArray, List.set_cons_zero, List.set_cons_succ, i64_w, i32_w]
    rfl
  refine pure_ (i := 6) (N := some 98) (v := ?_) (a' := ?_) #[true, false, true, true, true, true, true, false, false, false, false, false] rfl rfl (any_of HT_.out (by kernel_rfl)) (fun _ _ _ h => h) (Or.inl ⟨by rfl, ?_⟩) ?_ ?_
  rotate_left
  · intro w'
    go_simp
    with_reducible rfl
  rotate_left
  · simp only [Act.put, List.setIfInBounds_toArray, List.set_cons_zero, List.set_cons_succ, i64_w, i32_w]
    rfl
  refine take_ (i := 1) (N := some 93) (v := ?_) (a' := ?_) #[true, true, true, true, true, true, true, false, false, false, false, false] rfl rfl (take_ofW HT_.out HW_.out (by kernel_rfl)) (fun _ _ _ h => h) (Or.inl ⟨by rfl, ?_⟩) hHeld ?_ ?_
  rotate_left
  · rintro w' ⟨s0, s1, s2, s3, s4, s5, s6⟩
    go_simp
    with_reducible rfl
  rotate_left
  · simp only [Act.put, List.setIfInBounds_toArray, List.set_cons_zero, List.set_cons_succ, i64_w, i32_w]
    rfl
  refine pure_ (i := 7) (N := some 99) (v := ?_) (a' := ?_) #[true, true, true, true, true, true, true, true, false, false, false, false] rfl rfl (any_of HT_.out (by kernel_rfl)) (fun _ _ _ h => h) (Or.inl ⟨by rfl, ?_⟩) ?_ ?_
  rotate_left
  · intro w'
    go_simp
    with_reducible rfl
  rotate_left
  · simp only [Act.put, List.setIfInBounds_toArray, List.set_cons_zero, List.set_cons_succ, i64_w, i32_w]
    rfl
  refine pure_ (i := 8) (N := some 100) (v := ?_) (a' := ?_) #[true, true, true, true, true, true, true, true, true, false, false, false] rfl rfl (any_of HT_.out (by kernel_rfl)) (fun _ _ _ h => h) (Or.inl ⟨by rfl, ?_⟩) ?_ ?_
  rotate_left
  · intro w'
    go_simp
    with_reducible rfl
  rotate_left
  · simp only [Act.put, List.setIfInBounds_toArray, List.set_cons_zero, List.set_cons_succ, i64_w, i32_w]
    rfl
  refine last_ (i := 9) (N := none) #[true, true, true, true, true, true, true, true, true, true, false, false] rfl rfl (one_of HT_.out (by kernel_rfl)) (by decide) (fun K hK => ?_)
  have hs_ := blk_cell HO.out.rd 2
  simp only [List.getElem?_toArray, List.getElem?_cons_zero, List.getElem?_cons_succ] at hs_
  have hfs_ := blk_frozen HO.out.rd 2
  refine skip_ (w1 := ?_) (by rfl) rfl ?_ ?_
  rotate_left
  · go_simp
    rfl
  refine hK.out _ _ ?_
  clear hK K
  refine pure_ (i := 10) (N := some 101) (v := ?_) (a' := ?_) #[true, true, true, true, true, true, true, true, true, true, true, false] rfl rfl (any_of HT_.out (by kernel_rfl)) (fun _ _ _ h => h) (Or.inl ⟨by rfl, ?_⟩) ?_ ?_
  rotate_left
  · intro w'
    go_simp
    with_reducible rfl
  rotate_left
  · simp only [Act.put, List.setIfInBounds_toArray, List.set_cons_zero, List.set_cons_succ, i64_w, i32_w]
    rfl
  refine last_ (i := 11) (N := none) #[true, true, true, true, true, true, true, true, true, true, true, true] rfl rfl (one_of HT_.out (by kernel_rfl)) (by decide) (fun K hK => ?_)
  have hs_ := blk_cell HO.out.rd 3
  simp only [List.getElem?_toArray, List.getElem?_cons_zero, List.getElem?_cons_succ] at hs_
  have hfs_ := blk_frozen HO.out.rd 3
  refine skip_ (w1 := ?_) (by rfl) rfl ?_ ?_
  rotate_left
  · go_simp
    rfl
  refine hK.out _ _ ?_
  clear hK K
  refine done_ (done_of HT_.out (by kernel_rfl)) ?_
  have c0 := blk_cell HO.out.rd 0
  have f0 := blk_frozen HO.out.rd 0
  have k0 := blk_cell HO.out.res 0
  have l0 := blk_frozen HO.out.res 0
  have c1 := blk_cell HO.out.rd 1
  have f1 := blk_frozen HO.out.rd 1
  have k1 := blk_cell HO.out.res 1
  have l1 := blk_frozen HO.out.res 1
  have c2 := blk_cell HO.out.rd 2
  have f2 := blk_frozen HO.out.rd 2
  have k2 := blk_cell HO.out.res 2
  have l2 := blk_frozen HO.out.res 2
  have c3 := blk_cell HO.out.rd 3
  have f3 := blk_frozen HO.out.rd 3
  have k3 := blk_cell HO.out.res 3
  have l3 := blk_frozen HO.out.res 3
  have c4 := blk_cell HO.out.rd 4
  have f4 := blk_frozen HO.out.rd 4
  have k4 := blk_cell HO.out.res 4
  have l4 := blk_frozen HO.out.res 4
  have c5 := blk_cell HO.out.rd 5
  have f5 := blk_frozen HO.out.rd 5
  have k5 := blk_cell HO.out.res 5
  have l5 := blk_frozen HO.out.res 5
  have c6 := blk_cell HO.out.rd 6
  have f6 := blk_frozen HO.out.rd 6
  have k6 := blk_cell HO.out.res 6
  have l6 := blk_frozen HO.out.res 6
  simp only [List.getElem?_toArray, List.getElem?_cons_zero, List.getElem?_cons_succ] at c0 c1 c2 c3 c4 c5 c6 k0 k1 k2 k3 k4 k5 k6
  have hne : g ≠ g + 1 := by omega
  have hne2 : g + 1 ≠ g := by omega
  go_wp2
  refine bodyPost_ret (results_ct (fn := Try.f63) (p := 8) (u := 9) (ty := 82) rfl _ _ (g + 1) 82 _ (0, 0) _ (by rfl) (by exact seven _ _ _ _ _ _ _ _ _ _ _ _ _ _ _ _ (blk_far (p := ⟨g, 3, none⟩) (blk_far (p := ⟨g, 2, none⟩) HO.out.res hne2 _) hne2 _)) Try.underlying82 rfl (by kernel_rfl)) rfl ?_
  exact ⟨rfl, seven_below (below_set (below_set HO.out.bel (Nat.le_of_eq HO.out.eg.symm)) (Nat.le_of_eq HO.out.eg.symm)) (by rw [HO.out.eg]; exact Nat.le_succ _) _ _ _ _ _ _ _⟩
theorem seven_far {W : World} {v : Value} {r : Rd} {ok : Nat → Prop} {g : Nat} (h : RdF W v r ok) (hok : ∀ k, ok k → k ≠ g) (v0 v1 v2 v3 v4 v5 v6 : Value) :
    RdF (((((((W.setCell ⟨g, 0, none⟩ v0).setCell ⟨g, 1, none⟩ v1).setCell ⟨g, 2, none⟩ v2).setCell ⟨g, 3, none⟩ v3).setCell ⟨g, 4, none⟩ v4).setCell ⟨g, 5, none⟩ v5).setCell ⟨g, 6, none⟩ v6) v r ok :=
  ((((((h.far (p := ⟨g, 0, none⟩) hok v0).far (p := ⟨g, 1, none⟩) hok v1).far (p := ⟨g, 2, none⟩) hok v2).far (p := ⟨g, 3, none⟩) hok v3).far (p := ⟨g, 4, none⟩) hok v4).far (p := ⟨g, 5, none⟩) hok v5).far (p := ⟨g, 6, none⟩) hok v6
theorem RdF.bg {w : World} {A : Option Addr} {c : Nat} {B : Option Addr} {e : Nat} {n m : Nat} {cell : ByteArray} {st bg err pl : Int} {r : Rd} {ok : Nat → Prop} (h : RdF w (.agg #[.slice A n c, .slice B m e, .string cell, .int .i64 st, .int .i64 bg, .int .i64 err, .int .i64 pl]) r ok) (b : Int) :
    RdF w (.agg #[.slice A n c, .slice B m e, .string cell, .int .i64 st, .int .i64 b, .int .i64 err, .int .i64 pl]) { r with bg := b } ok := by
  obtain ⟨A', c', B', e', hv, h1, h2, h3, h4⟩ := h
  simp only [Value.agg.injEq, Array.mk.injEq, List.cons.injEq, Value.slice.injEq, Value.string.injEq, Value.int.injEq, true_and, and_true] at hv
  obtain ⟨⟨rfl, rfl, rfl⟩, ⟨rfl, rfl, rfl⟩, rfl, rfl, _, rfl, rfl⟩ := hv
  exact ⟨A, c, B, e, rfl, h1, h2, h3, h4⟩
set_option maxHeartbeats 4000000 in
set_option maxRecDepth 100000 in
theorem one_bad3 (s : ByteArray) (p : Nat) (d : Int) (v : Value) (dn : List (List ByteArray)) (row : List ByteArray) (cell : ByteArray) (bg err pl : Int) (w : World) (hp : p < s.size) (hs : s.size ≤ 3000) (P : Nat → Prop) (hr : RdF w v ⟨dn, row, cell, 3, bg, err, pl⟩ P) (hb : bt s p ≠ 34) (hd : bt s p ≠ d) (hn0 : breakR ((toBs s).drop p) = 0) :
    Calls Try.prog 63 #[.string s, .int .i64 p, .int .u8 d, v] w fun ev w' => ∃ v', ev = .returned (.tuple #[v', .int .i64 1]) ∧ RdF w' v' (badR p 5) (fun k => P k ∨ w.heap.size ≤ k) ∧ Below w.heap.size w w' := by
  have hbd : (bt s p == d) = false := beq_eq_false_iff_ne.2 hd
  clear hd
  have hb2 : (bt s p == 34) = false := beq_eq_false_iff_ne.2 hb
  clear hb
  have HF := Lib.hid hr.bound
  obtain ⟨A, c, B, e, hv, hx⟩ := hr
  clear hx
  dsimp only at hv
  subst hv
  have hp0 : (0 : Int) ≤ p := by omega
  have hp1 : (p : Int) < s.size := by omega
  rw [bt_at s p hp] at *
  have HBr := Lib.hid (show tartanref02_Break.f 1 s p = some (0 : Int) by rw [ref02_Break_at s p 0 hp (by omega), hn0]; rfl)
  clear hn0
  go_enter Try.func63, Try.ntmps63
  go_wp2_with fail
  refine (tartanref02_Break.calls 1 s p _ _ HBr.out).mono ?_
  rintro ev w' ⟨rfl, ⟨nd, rfl⟩⟩
  have HO := Lib.hid (oneAt w #[Value.slice A dn.length c, Value.slice B row.length e, Value.string cell, Value.int IntKind.i64 3, Value.int IntKind.i64 bg, Value.int IntKind.i64 err, Value.int IntKind.i64 pl] nd)
  generalize hg : w.heap.size = g at HO ⊢
  have HG := Lib.hid hg
  clear hg
  generalize (((w.alloc (Obj.cells #[Value.slice A dn.length c, Value.slice B row.length e, Value.string cell, Value.int IntKind.i64 3, Value.int IntKind.i64 bg, Value.int IntKind.i64 err, Value.int IntKind.i64 pl] 82)).alloc (Obj.cells #[Value.slice none 0 0, Value.slice none 0 0, Value.string { data := #[] }, Value.int IntKind.i64 0, Value.int IntKind.i64 0, Value.int IntKind.i64 0, Value.int IntKind.i64 0] 82)).drewN nd) = W at HO ⊢
  have HFW := Lib.hid (HF.out.below HO.out.bel)
  clear HF
  have c0 := blk_cell HO.out.rd 0
  have f0 := blk_frozen HO.out.rd 0
  have k0 := blk_cell HO.out.res 0
  have l0 := blk_frozen HO.out.res 0
  have c1 := blk_cell HO.out.rd 1
  have f1 := blk_frozen HO.out.rd 1
  have k1 := blk_cell HO.out.res 1
  have l1 := blk_frozen HO.out.res 1
  have c2 := blk_cell HO.out.rd 2
  have f2 := blk_frozen HO.out.rd 2
  have k2 := blk_cell HO.out.res 2
  have l2 := blk_frozen HO.out.res 2
  have c3 := blk_cell HO.out.rd 3
  have f3 := blk_frozen HO.out.rd 3
  have k3 := blk_cell HO.out.res 3
  have l3 := blk_frozen HO.out.res 3
  have c4 := blk_cell HO.out.rd 4
  have f4 := blk_frozen HO.out.rd 4
  have k4 := blk_cell HO.out.res 4
  have l4 := blk_frozen HO.out.res 4
  have c5 := blk_cell HO.out.rd 5
  have f5 := blk_frozen HO.out.rd 5
  have k5 := blk_cell HO.out.res 5
  have l5 := blk_frozen HO.out.res 5
  have c6 := blk_cell HO.out.rd 6
  have f6 := blk_frozen HO.out.rd 6
  have k6 := blk_cell HO.out.res 6
  have l6 := blk_frozen HO.out.res 6
  simp only [List.getElem?_toArray, List.getElem?_cons_zero, List.getElem?_cons_succ] at c0 c1 c2 c3 c4 c5 c6 k0 k1 k2 k3 k4 k5 k6
  have hne : g ≠ g + 1 := by omega
  have hne2 : g + 1 ≠ g := by omega
  go_wp2_with fail
  refine (bad_F _ _ _ _ _ HFW.out.rd).mono ?_
  rintro ev w1 ⟨v1, rfl, hv1, hb1⟩
  have HV := Lib.hid hv1
  have HWs := Lib.hid (blk_lt HO.out.res)
  have HO1 := Lib.hid (call_keep HO.out hb1)
  clear c0 f0 k0 l0 c1 f1 k1 l1 c2 f2 k2 l2 c3 f3 k3 l3 c4 f4 k4 l4 c5 f5 k5 l5 c6 f6 k6 l6
  clear HO hb1 HFW
  have HO := HO1
  clear HO1
  obtain ⟨A1, c1, B1, e1, hv1e, hx⟩ := hv1
  clear hx
  subst hv1e
  have c0 := blk_cell HO.out.rd 0
  have f0 := blk_frozen HO.out.rd 0
  have k0 := blk_cell HO.out.res 0
  have l0 := blk_frozen HO.out.res 0
  have c1 := blk_cell HO.out.rd 1
  have f1 := blk_frozen HO.out.rd 1
  have k1 := blk_cell HO.out.res 1
  have l1 := blk_frozen HO.out.res 1
  have c2 := blk_cell HO.out.rd 2
  have f2 := blk_frozen HO.out.rd 2
  have k2 := blk_cell HO.out.res 2
  have l2 := blk_frozen HO.out.res 2
  have c3 := blk_cell HO.out.rd 3
  have f3 := blk_frozen HO.out.rd 3
  have k3 := blk_cell HO.out.res 3
  have l3 := blk_frozen HO.out.res 3
  have c4 := blk_cell HO.out.rd 4
  have f4 := blk_frozen HO.out.rd 4
  have k4 := blk_cell HO.out.res 4
  have l4 := blk_frozen HO.out.res 4
  have c5 := blk_cell HO.out.rd 5
  have f5 := blk_frozen HO.out.rd 5
  have k5 := blk_cell HO.out.res 5
  have l5 := blk_frozen HO.out.res 5
  have c6 := blk_cell HO.out.rd 6
  have f6 := blk_frozen HO.out.rd 6
  have k6 := blk_cell HO.out.res 6
  have l6 := blk_frozen HO.out.res 6
  simp only [List.getElem?_toArray, List.getElem?_cons_zero, List.getElem?_cons_succ] at c0 c1 c2 c3 c4 c5 c6 k0 k1 k2 k3 k4 k5 k6
  have hne_ : g ≠ g + 1 := by omega
  have hne2_ : g + 1 ≠ g := by omega
  go_wp2
  refine bodyPost_ret (results_ct (fn := Try.f63) (p := 8) (u := 9) (ty := 82) rfl _ _ (g + 1) 82 _ (0, 0) _ (by rfl) (by exact seven _ _ _ _ _ _ _ _ _ _ _ _ _ _ _ _ HO.out.res) Try.underlying82 rfl (by kernel_rfl)) rfl ?_
  exact ⟨_, rfl, (seven_far HV.out (fun _ h => h.elim) _ _ _ _ _ _ _).mono (fun _ h => h.elim), seven_below HO.out.bel (by rw [HO.out.eg]; exact Nat.le_succ _) _ _ _ _ _ _ _⟩
set_option maxHeartbeats 4000000 in
set_option maxRecDepth 100000 in
theorem one_badq (s : ByteArray) (p : Nat) (d : Int) (v : Value) (dn : List (List ByteArray)) (row : List ByteArray) (cell : ByteArray) (bg err pl : Int) (w : World) (hp : p < s.size) (hs : s.size ≤ 3000) (P : Nat → Prop) (hr : RdF w v ⟨dn, row, cell, 1, bg, err, pl⟩ P) (hb : bt s p = 34) (hd : bt s p ≠ d) (hn0 : breakR ((toBs s).drop p) = 0) :
    Calls Try.prog 63 #[.string s, .int .i64 p, .int .u8 d, v] w fun ev w' => ∃ v', ev = .returned (.tuple #[v', .int .i64 1]) ∧ RdF w' v' (badR p 3) (fun k => P k ∨ w.heap.size ≤ k) ∧ Below w.heap.size w w' := by
  have hbd2 : ((34 : Int) == d) = false := beq_eq_false_iff_ne.2 (by rw [← hb]; exact hd)
  have hbd : (bt s p == d) = false := beq_eq_false_iff_ne.2 hd
  clear hd
  have hb2 : (bt s p == 34) = true := by rw [hb]; rfl
  clear hb
  have HF := Lib.hid hr.bound
  obtain ⟨A, c, B, e, hv, hx⟩ := hr
  clear hx
  dsimp only at hv
  subst hv
  have hp0 : (0 : Int) ≤ p := by omega
  have hp1 : (p : Int) < s.size := by omega
  rw [bt_at s p hp] at *
  have HBr := Lib.hid (show tartanref02_Break.f 1 s p = some (0 : Int) by rw [ref02_Break_at s p 0 hp (by omega), hn0]; rfl)
  clear hn0
  go_enter Try.func63, Try.ntmps63
  go_wp2_with fail
  refine (tartanref02_Break.calls 1 s p _ _ HBr.out).mono ?_
  rintro ev w' ⟨rfl, ⟨nd, rfl⟩⟩
  have HO := Lib.hid (oneAt w #[Value.slice A dn.length c, Value.slice B row.length e, Value.string cell, Value.int IntKind.i64 1, Value.int IntKind.i64 bg, Value.int IntKind.i64 err, Value.int IntKind.i64 pl] nd)
  generalize hg : w.heap.size = g at HO ⊢
  have HG := Lib.hid hg
  clear hg
  generalize (((w.alloc (Obj.cells #[Value.slice A dn.length c, Value.slice B row.length e, Value.string cell, Value.int IntKind.i64 1, Value.int IntKind.i64 bg, Value.int IntKind.i64 err, Value.int IntKind.i64 pl] 82)).alloc (Obj.cells #[Value.slice none 0 0, Value.slice none 0 0, Value.string { data := #[] }, Value.int IntKind.i64 0, Value.int IntKind.i64 0, Value.int IntKind.i64 0, Value.int IntKind.i64 0] 82)).drewN nd) = W at HO ⊢
  have HFW := Lib.hid (HF.out.below HO.out.bel)
  clear HF
  have c0 := blk_cell HO.out.rd 0
  have f0 := blk_frozen HO.out.rd 0
  have k0 := blk_cell HO.out.res 0
  have l0 := blk_frozen HO.out.res 0
  have c1 := blk_cell HO.out.rd 1
  have f1 := blk_frozen HO.out.rd 1
  have k1 := blk_cell HO.out.res 1
  have l1 := blk_frozen HO.out.res 1
  have c2 := blk_cell HO.out.rd 2
  have f2 := blk_frozen HO.out.rd 2
  have k2 := blk_cell HO.out.res 2
  have l2 := blk_frozen HO.out.res 2
  have c3 := blk_cell HO.out.rd 3
  have f3 := blk_frozen HO.out.rd 3
  have k3 := blk_cell HO.out.res 3
  have l3 := blk_frozen HO.out.res 3
  have c4 := blk_cell HO.out.rd 4
  have f4 := blk_frozen HO.out.rd 4
  have k4 := blk_cell HO.out.res 4
  have l4 := blk_frozen HO.out.res 4
  have c5 := blk_cell HO.out.rd 5
  have f5 := blk_frozen HO.out.rd 5
  have k5 := blk_cell HO.out.res 5
  have l5 := blk_frozen HO.out.res 5
  have c6 := blk_cell HO.out.rd 6
  have f6 := blk_frozen HO.out.rd 6
  have k6 := blk_cell HO.out.res 6
  have l6 := blk_frozen HO.out.res 6
  simp only [List.getElem?_toArray, List.getElem?_cons_zero, List.getElem?_cons_succ] at c0 c1 c2 c3 c4 c5 c6 k0 k1 k2 k3 k4 k5 k6
  have hne : g ≠ g + 1 := by omega
  have hne2 : g + 1 ≠ g := by omega
  go_wp2_with fail
  refine (bad_F _ _ _ _ _ HFW.out.rd).mono ?_
  rintro ev w1 ⟨v1, rfl, hv1, hb1⟩
  have HV := Lib.hid hv1
  have HWs := Lib.hid (blk_lt HO.out.res)
  have HO1 := Lib.hid (call_keep HO.out hb1)
  clear c0 f0 k0 l0 c1 f1 k1 l1 c2 f2 k2 l2 c3 f3 k3 l3 c4 f4 k4 l4 c5 f5 k5 l5 c6 f6 k6 l6
  clear HO hb1 HFW
  have HO := HO1
  clear HO1
  obtain ⟨A1, c1, B1, e1, hv1e, hx⟩ := hv1
  clear hx
  subst hv1e
  have c0 := blk_cell HO.out.rd 0
  have f0 := blk_frozen HO.out.rd 0
  have k0 := blk_cell HO.out.res 0
  have l0 := blk_frozen HO.out.res 0
  have c1 := blk_cell HO.out.rd 1
  have f1 := blk_frozen HO.out.rd 1
  have k1 := blk_cell HO.out.res 1
  have l1 := blk_frozen HO.out.res 1
  have c2 := blk_cell HO.out.rd 2
  have f2 := blk_frozen HO.out.rd 2
  have k2 := blk_cell HO.out.res 2
  have l2 := blk_frozen HO.out.res 2
  have c3 := blk_cell HO.out.rd 3
  have f3 := blk_frozen HO.out.rd 3
  have k3 := blk_cell HO.out.res 3
  have l3 := blk_frozen HO.out.res 3
  have c4 := blk_cell HO.out.rd 4
  have f4 := blk_frozen HO.out.rd 4
  have k4 := blk_cell HO.out.res 4
  have l4 := blk_frozen HO.out.res 4
  have c5 := blk_cell HO.out.rd 5
  have f5 := blk_frozen HO.out.rd 5
  have k5 := blk_cell HO.out.res 5
  have l5 := blk_frozen HO.out.res 5
  have c6 := blk_cell HO.out.rd 6
  have f6 := blk_frozen HO.out.rd 6
  have k6 := blk_cell HO.out.res 6
  have l6 := blk_frozen HO.out.res 6
  simp only [List.getElem?_toArray, List.getElem?_cons_zero, List.getElem?_cons_succ] at c0 c1 c2 c3 c4 c5 c6 k0 k1 k2 k3 k4 k5 k6
  have hne_ : g ≠ g + 1 := by omega
  have hne2_ : g + 1 ≠ g := by omega
  go_wp2
  refine bodyPost_ret (results_ct (fn := Try.f63) (p := 8) (u := 9) (ty := 82) rfl _ _ (g + 1) 82 _ (0, 0) _ (by rfl) (by exact seven _ _ _ _ _ _ _ _ _ _ _ _ _ _ _ _ HO.out.res) Try.underlying82 rfl (by kernel_rfl)) rfl ?_
  exact ⟨_, rfl, (seven_far HV.out (fun _ h => h.elim) _ _ _ _ _ _ _).mono (fun _ h => h.elim), seven_below HO.out.bel (by rw [HO.out.eg]; exact Nat.le_succ _) _ _ _ _ _ _ _⟩
set_option maxHeartbeats 4000000 in
set_option maxRecDepth 100000 in
theorem one_badr0 (s : ByteArray) (p : Nat) (d : Int) (v : Value) (dn : List (List ByteArray)) (row : List ByteArray) (cell : ByteArray) (bg err pl : Int) (w : World) (hp : p < s.size) (hs : s.size ≤ 3000) (P : Nat → Prop) (hr : RdF w v ⟨dn, row, cell, 0, bg, err, pl⟩ P) (hb : bt s p ≠ 34) (hd : bt s p ≠ d) (hn0 : breakR ((toBs s).drop p) = 0) (h13 : bt s p = 13) :
    Calls Try.prog 63 #[.string s, .int .i64 p, .int .u8 d, v] w fun ev w' => ∃ v', ev = .returned (.tuple #[v', .int .i64 1]) ∧ RdF w' v' (badR p 6) (fun k => P k ∨ w.heap.size ≤ k) ∧ Below w.heap.size w w' := by
  have hbd2 : ((13 : Int) == d) = false := beq_eq_false_iff_ne.2 (by rw [← h13]; exact hd)
  have hbd : (bt s p == d) = false := beq_eq_false_iff_ne.2 hd
  clear hd
  have hb2 : (bt s p == 34) = false := beq_eq_false_iff_ne.2 hb
  clear hb
  have hb13 : (bt s p == 13) = true := by rw [h13]; rfl
  clear h13
  have HF := Lib.hid hr.bound
  obtain ⟨A, c, B, e, hv, hx⟩ := hr
  clear hx
  dsimp only at hv
  subst hv
  have hp0 : (0 : Int) ≤ p := by omega
  have hp1 : (p : Int) < s.size := by omega
  rw [bt_at s p hp] at *
  have HBr := Lib.hid (show tartanref02_Break.f 1 s p = some (0 : Int) by rw [ref02_Break_at s p 0 hp (by omega), hn0]; rfl)
  clear hn0
  go_enter Try.func63, Try.ntmps63
  go_wp2_with fail
  refine (tartanref02_Break.calls 1 s p _ _ HBr.out).mono ?_
  rintro ev w' ⟨rfl, ⟨nd, rfl⟩⟩
  have HO := Lib.hid (oneAt w #[Value.slice A dn.length c, Value.slice B row.length e, Value.string cell, Value.int IntKind.i64 0, Value.int IntKind.i64 bg, Value.int IntKind.i64 err, Value.int IntKind.i64 pl] nd)
  generalize hg : w.heap.size = g at HO ⊢
  have HG := Lib.hid hg
  clear hg
  generalize (((w.alloc (Obj.cells #[Value.slice A dn.length c, Value.slice B row.length e, Value.string cell, Value.int IntKind.i64 0, Value.int IntKind.i64 bg, Value.int IntKind.i64 err, Value.int IntKind.i64 pl] 82)).alloc (Obj.cells #[Value.slice none 0 0, Value.slice none 0 0, Value.string { data := #[] }, Value.int IntKind.i64 0, Value.int IntKind.i64 0, Value.int IntKind.i64 0, Value.int IntKind.i64 0] 82)).drewN nd) = W at HO ⊢
  have HFW := Lib.hid (HF.out.below HO.out.bel)
  clear HF
  have c0 := blk_cell HO.out.rd 0
  have f0 := blk_frozen HO.out.rd 0
  have k0 := blk_cell HO.out.res 0
  have l0 := blk_frozen HO.out.res 0
  have c1 := blk_cell HO.out.rd 1
  have f1 := blk_frozen HO.out.rd 1
  have k1 := blk_cell HO.out.res 1
  have l1 := blk_frozen HO.out.res 1
  have c2 := blk_cell HO.out.rd 2
  have f2 := blk_frozen HO.out.rd 2
  have k2 := blk_cell HO.out.res 2
  have l2 := blk_frozen HO.out.res 2
  have c3 := blk_cell HO.out.rd 3
  have f3 := blk_frozen HO.out.rd 3
  have k3 := blk_cell HO.out.res 3
  have l3 := blk_frozen HO.out.res 3
  have c4 := blk_cell HO.out.rd 4
  have f4 := blk_frozen HO.out.rd 4
  have k4 := blk_cell HO.out.res 4
  have l4 := blk_frozen HO.out.res 4
  have c5 := blk_cell HO.out.rd 5
  have f5 := blk_frozen HO.out.rd 5
  have k5 := blk_cell HO.out.res 5
  have l5 := blk_frozen HO.out.res 5
  have c6 := blk_cell HO.out.rd 6
  have f6 := blk_frozen HO.out.rd 6
  have k6 := blk_cell HO.out.res 6
  have l6 := blk_frozen HO.out.res 6
  simp only [List.getElem?_toArray, List.getElem?_cons_zero, List.getElem?_cons_succ] at c0 c1 c2 c3 c4 c5 c6 k0 k1 k2 k3 k4 k5 k6
  have hne : g ≠ g + 1 := by omega
  have hne2 : g + 1 ≠ g := by omega
  go_wp2_with fail
  refine (bad_F _ _ _ _ _ HFW.out.rd).mono ?_
  rintro ev w1 ⟨v1, rfl, hv1, hb1⟩
  have HV := Lib.hid hv1
  have HWs := Lib.hid (blk_lt HO.out.res)
  have HO1 := Lib.hid (call_keep HO.out hb1)
  clear c0 f0 k0 l0 c1 f1 k1 l1 c2 f2 k2 l2 c3 f3 k3 l3 c4 f4 k4 l4 c5 f5 k5 l5 c6 f6 k6 l6
  clear HO hb1 HFW
  have HO := HO1
  clear HO1
  obtain ⟨A1, c1, B1, e1, hv1e, hx⟩ := hv1
  clear hx
  subst hv1e
  have c0 := blk_cell HO.out.rd 0
  have f0 := blk_frozen HO.out.rd 0
  have k0 := blk_cell HO.out.res 0
  have l0 := blk_frozen HO.out.res 0
  have c1 := blk_cell HO.out.rd 1
  have f1 := blk_frozen HO.out.rd 1
  have k1 := blk_cell HO.out.res 1
  have l1 := blk_frozen HO.out.res 1
  have c2 := blk_cell HO.out.rd 2
  have f2 := blk_frozen HO.out.rd 2
  have k2 := blk_cell HO.out.res 2
  have l2 := blk_frozen HO.out.res 2
  have c3 := blk_cell HO.out.rd 3
  have f3 := blk_frozen HO.out.rd 3
  have k3 := blk_cell HO.out.res 3
  have l3 := blk_frozen HO.out.res 3
  have c4 := blk_cell HO.out.rd 4
  have f4 := blk_frozen HO.out.rd 4
  have k4 := blk_cell HO.out.res 4
  have l4 := blk_frozen HO.out.res 4
  have c5 := blk_cell HO.out.rd 5
  have f5 := blk_frozen HO.out.rd 5
  have k5 := blk_cell HO.out.res 5
  have l5 := blk_frozen HO.out.res 5
  have c6 := blk_cell HO.out.rd 6
  have f6 := blk_frozen HO.out.rd 6
  have k6 := blk_cell HO.out.res 6
  have l6 := blk_frozen HO.out.res 6
  simp only [List.getElem?_toArray, List.getElem?_cons_zero, List.getElem?_cons_succ] at c0 c1 c2 c3 c4 c5 c6 k0 k1 k2 k3 k4 k5 k6
  have hne_ : g ≠ g + 1 := by omega
  have hne2_ : g + 1 ≠ g := by omega
  go_wp2
  refine bodyPost_ret (results_ct (fn := Try.f63) (p := 8) (u := 9) (ty := 82) rfl _ _ (g + 1) 82 _ (0, 0) _ (by rfl) (by exact seven _ _ _ _ _ _ _ _ _ _ _ _ _ _ _ _ HO.out.res) Try.underlying82 rfl (by kernel_rfl)) rfl ?_
  exact ⟨_, rfl, (seven_far HV.out (fun _ h => h.elim) _ _ _ _ _ _ _).mono (fun _ h => h.elim), seven_below HO.out.bel (by rw [HO.out.eg]; exact Nat.le_succ _) _ _ _ _ _ _ _⟩
set_option maxHeartbeats 4000000 in
set_option maxRecDepth 100000 in
theorem one_badr1 (s : ByteArray) (p : Nat) (d : Int) (v : Value) (dn : List (List ByteArray)) (row : List ByteArray) (cell : ByteArray) (bg err pl : Int) (w : World) (hp : p < s.size) (hs : s.size ≤ 3000) (P : Nat → Prop) (hr : RdF w v ⟨dn, row, cell, 1, bg, err, pl⟩ P) (hb : bt s p ≠ 34) (hd : bt s p ≠ d) (hn0 : breakR ((toBs s).drop p) = 0) (h13 : bt s p = 13) :
    Calls Try.prog 63 #[.string s, .int .i64 p, .int .u8 d, v] w fun ev w' => ∃ v', ev = .returned (.tuple #[v', .int .i64 1]) ∧ RdF w' v' (badR p 6) (fun k => P k ∨ w.heap.size ≤ k) ∧ Below w.heap.size w w' := by
  have hbd2 : ((13 : Int) == d) = false := beq_eq_false_iff_ne.2 (by rw [← h13]; exact hd)
  have hbd : (bt s p == d) = false := beq_eq_false_iff_ne.2 hd
  clear hd
  have hb2 : (bt s p == 34) = false := beq_eq_false_iff_ne.2 hb
  clear hb
  have hb13 : (bt s p == 13) = true := by rw [h13]; rfl
  clear h13
  have HF := Lib.hid hr.bound
  obtain ⟨A, c, B, e, hv, hx⟩ := hr
  clear hx
  dsimp only at hv
  subst hv
  have hp0 : (0 : Int) ≤ p := by omega
  have hp1 : (p : Int) < s.size := by omega
  rw [bt_at s p hp] at *
  have HBr := Lib.hid (show tartanref02_Break.f 1 s p = some (0 : Int) by rw [ref02_Break_at s p 0 hp (by omega), hn0]; rfl)
  clear hn0
  go_enter Try.func63, Try.ntmps63
  go_wp2_with fail
  refine (tartanref02_Break.calls 1 s p _ _ HBr.out).mono ?_
  rintro ev w' ⟨rfl, ⟨nd, rfl⟩⟩
  have HO := Lib.hid (oneAt w #[Value.slice A dn.length c, Value.slice B row.length e, Value.string cell, Value.int IntKind.i64 1, Value.int IntKind.i64 bg, Value.int IntKind.i64 err, Value.int IntKind.i64 pl] nd)
  generalize hg : w.heap.size = g at HO ⊢
  have HG := Lib.hid hg
  clear hg
  generalize (((w.alloc (Obj.cells #[Value.slice A dn.length c, Value.slice B row.length e, Value.string cell, Value.int IntKind.i64 1, Value.int IntKind.i64 bg, Value.int IntKind.i64 err, Value.int IntKind.i64 pl] 82)).alloc (Obj.cells #[Value.slice none 0 0, Value.slice none 0 0, Value.string { data := #[] }, Value.int IntKind.i64 0, Value.int IntKind.i64 0, Value.int IntKind.i64 0, Value.int IntKind.i64 0] 82)).drewN nd) = W at HO ⊢
  have HFW := Lib.hid (HF.out.below HO.out.bel)
  clear HF
  have c0 := blk_cell HO.out.rd 0
  have f0 := blk_frozen HO.out.rd 0
  have k0 := blk_cell HO.out.res 0
  have l0 := blk_frozen HO.out.res 0
  have c1 := blk_cell HO.out.rd 1
  have f1 := blk_frozen HO.out.rd 1
  have k1 := blk_cell HO.out.res 1
  have l1 := blk_frozen HO.out.res 1
  have c2 := blk_cell HO.out.rd 2
  have f2 := blk_frozen HO.out.rd 2
  have k2 := blk_cell HO.out.res 2
  have l2 := blk_frozen HO.out.res 2
  have c3 := blk_cell HO.out.rd 3
  have f3 := blk_frozen HO.out.rd 3
  have k3 := blk_cell HO.out.res 3
  have l3 := blk_frozen HO.out.res 3
  have c4 := blk_cell HO.out.rd 4
  have f4 := blk_frozen HO.out.rd 4
  have k4 := blk_cell HO.out.res 4
  have l4 := blk_frozen HO.out.res 4
  have c5 := blk_cell HO.out.rd 5
  have f5 := blk_frozen HO.out.rd 5
  have k5 := blk_cell HO.out.res 5
  have l5 := blk_frozen HO.out.res 5
  have c6 := blk_cell HO.out.rd 6
  have f6 := blk_frozen HO.out.rd 6
  have k6 := blk_cell HO.out.res 6
  have l6 := blk_frozen HO.out.res 6
  simp only [List.getElem?_toArray, List.getElem?_cons_zero, List.getElem?_cons_succ] at c0 c1 c2 c3 c4 c5 c6 k0 k1 k2 k3 k4 k5 k6
  have hne : g ≠ g + 1 := by omega
  have hne2 : g + 1 ≠ g := by omega
  go_wp2_with fail
  refine (bad_F _ _ _ _ _ HFW.out.rd).mono ?_
  rintro ev w1 ⟨v1, rfl, hv1, hb1⟩
  have HV := Lib.hid hv1
  have HWs := Lib.hid (blk_lt HO.out.res)
  have HO1 := Lib.hid (call_keep HO.out hb1)
  clear c0 f0 k0 l0 c1 f1 k1 l1 c2 f2 k2 l2 c3 f3 k3 l3 c4 f4 k4 l4 c5 f5 k5 l5 c6 f6 k6 l6
  clear HO hb1 HFW
  have HO := HO1
  clear HO1
  obtain ⟨A1, c1, B1, e1, hv1e, hx⟩ := hv1
  clear hx
  subst hv1e
  have c0 := blk_cell HO.out.rd 0
  have f0 := blk_frozen HO.out.rd 0
  have k0 := blk_cell HO.out.res 0
  have l0 := blk_frozen HO.out.res 0
  have c1 := blk_cell HO.out.rd 1
  have f1 := blk_frozen HO.out.rd 1
  have k1 := blk_cell HO.out.res 1
  have l1 := blk_frozen HO.out.res 1
  have c2 := blk_cell HO.out.rd 2
  have f2 := blk_frozen HO.out.rd 2
  have k2 := blk_cell HO.out.res 2
  have l2 := blk_frozen HO.out.res 2
  have c3 := blk_cell HO.out.rd 3
  have f3 := blk_frozen HO.out.rd 3
  have k3 := blk_cell HO.out.res 3
  have l3 := blk_frozen HO.out.res 3
  have c4 := blk_cell HO.out.rd 4
  have f4 := blk_frozen HO.out.rd 4
  have k4 := blk_cell HO.out.res 4
  have l4 := blk_frozen HO.out.res 4
  have c5 := blk_cell HO.out.rd 5
  have f5 := blk_frozen HO.out.rd 5
  have k5 := blk_cell HO.out.res 5
  have l5 := blk_frozen HO.out.res 5
  have c6 := blk_cell HO.out.rd 6
  have f6 := blk_frozen HO.out.rd 6
  have k6 := blk_cell HO.out.res 6
  have l6 := blk_frozen HO.out.res 6
  simp only [List.getElem?_toArray, List.getElem?_cons_zero, List.getElem?_cons_succ] at c0 c1 c2 c3 c4 c5 c6 k0 k1 k2 k3 k4 k5 k6
  have hne_ : g ≠ g + 1 := by omega
  have hne2_ : g + 1 ≠ g := by omega
  go_wp2
  refine bodyPost_ret (results_ct (fn := Try.f63) (p := 8) (u := 9) (ty := 82) rfl _ _ (g + 1) 82 _ (0, 0) _ (by rfl) (by exact seven _ _ _ _ _ _ _ _ _ _ _ _ _ _ _ _ HO.out.res) Try.underlying82 rfl (by kernel_rfl)) rfl ?_
  exact ⟨_, rfl, (seven_far HV.out (fun _ h => h.elim) _ _ _ _ _ _ _).mono (fun _ h => h.elim), seven_below HO.out.bel (by rw [HO.out.eg]; exact Nat.le_succ _) _ _ _ _ _ _ _⟩
theorem seven_other {W : World} {g g2 : Nat} {o : Obj} (h : W.heap[g2]? = some o) (hne : g2 ≠ g) (v0 v1 v2 v3 v4 v5 v6 : Value) :
    (((((((W.setCell ⟨g, 0, none⟩ v0).setCell ⟨g, 1, none⟩ v1).setCell ⟨g, 2, none⟩ v2).setCell ⟨g, 3, none⟩ v3).setCell ⟨g, 4, none⟩ v4).setCell ⟨g, 5, none⟩ v5).setCell ⟨g, 6, none⟩ v6).heap[g2]? = some o := by
  have hf : ∀ (W : World) (i : Nat) (v : Value), (W.setCell ⟨g, i, none⟩ v).heap[g2]? = W.heap[g2]? := fun W i v => Below.heap_setCell W ⟨g, i, none⟩ v g2 hne
  rw [hf, hf, hf, hf, hf, hf, hf]
  exact h
theorem other4 {W : World} {g g2 : Nat} {o : Obj} (h : W.heap[g2]? = some o) (hne : g2 ≠ g) (v : Value) : (W.setCell ⟨g, 4, none⟩ v).heap[g2]? = some o := (Below.heap_setCell W ⟨g, 4, none⟩ v g2 hne).trans h
set_option maxHeartbeats 4000000 in
set_option maxRecDepth 100000 in
theorem one_delim0 (s : ByteArray) (p : Nat) (d : Int) (v : Value) (dn : List (List ByteArray)) (row : List ByteArray) (cell : ByteArray) (bg err pl : Int) (w : World) (hp : p < s.size) (hs : s.size ≤ 3000) (P : Nat → Prop) (hr : RdF w v ⟨dn, row, cell, 0, bg, err, pl⟩ P) (hd : bt s p = d) (hc : cell.size ≤ 3000) (hl : row.length ≤ 10000) :
    Calls Try.prog 63 #[.string s, .int .i64 p, .int .u8 d, v] w fun ev w' => ∃ v', ev = .returned (.tuple #[v', .int .i64 1]) ∧ RdF w' v' { closedR ⟨dn, row, cell, 0, bg, err, pl⟩ with bg := (p : Int) + 1 } (fun k => P k ∨ w.heap.size ≤ k) ∧ Below w.heap.size w w' := by
  have hb1 : wrap64 ((p : Int) + 1) = (p : Int) + 1 := by rw [show (1 : Int) = ((1 : Nat) : Int) from rfl, wrap_nat p 1 (by omega)]; rfl
  have hbd : (bt s p == d) = true := beq_iff_eq.2 hd
  clear hd
  have HF := Lib.hid hr.bound
  obtain ⟨A, c, B, e, hv, hx⟩ := hr
  clear hx
  dsimp only at hv
  subst hv
  have hp0 : (0 : Int) ≤ p := by omega
  have hp1 : (p : Int) < s.size := by omega
  rw [bt_at s p hp] at *
  have HBr := Lib.hid (ref02_Break_at s p 0 hp (by omega))
  go_enter Try.func63, Try.ntmps63
  go_wp2_with fail
  refine (tartanref02_Break.calls 1 s p _ _ HBr.out).mono ?_
  rintro ev w' ⟨rfl, ⟨nd, rfl⟩⟩
  have HO := Lib.hid (oneAt w #[Value.slice A dn.length c, Value.slice B row.length e, Value.string cell, Value.int IntKind.i64 0, Value.int IntKind.i64 bg, Value.int IntKind.i64 err, Value.int IntKind.i64 pl] nd)
  generalize hg : w.heap.size = g at HO ⊢
  have HG := Lib.hid hg
  clear hg
  generalize (((w.alloc (Obj.cells #[Value.slice A dn.length c, Value.slice B row.length e, Value.string cell, Value.int IntKind.i64 0, Value.int IntKind.i64 bg, Value.int IntKind.i64 err, Value.int IntKind.i64 pl] 82)).alloc (Obj.cells #[Value.slice none 0 0, Value.slice none 0 0, Value.string { data := #[] }, Value.int IntKind.i64 0, Value.int IntKind.i64 0, Value.int IntKind.i64 0, Value.int IntKind.i64 0] 82)).drewN nd) = W at HO ⊢
  have HFW := Lib.hid (HF.out.below HO.out.bel)
  clear HF
  have c0 := blk_cell HO.out.rd 0
  have f0 := blk_frozen HO.out.rd 0
  have k0 := blk_cell HO.out.res 0
  have l0 := blk_frozen HO.out.res 0
  have c1 := blk_cell HO.out.rd 1
  have f1 := blk_frozen HO.out.rd 1
  have k1 := blk_cell HO.out.res 1
  have l1 := blk_frozen HO.out.res 1
  have c2 := blk_cell HO.out.rd 2
  have f2 := blk_frozen HO.out.rd 2
  have k2 := blk_cell HO.out.res 2
  have l2 := blk_frozen HO.out.res 2
  have c3 := blk_cell HO.out.rd 3
  have f3 := blk_frozen HO.out.rd 3
  have k3 := blk_cell HO.out.res 3
  have l3 := blk_frozen HO.out.res 3
  have c4 := blk_cell HO.out.rd 4
  have f4 := blk_frozen HO.out.rd 4
  have k4 := blk_cell HO.out.res 4
  have l4 := blk_frozen HO.out.res 4
  have c5 := blk_cell HO.out.rd 5
  have f5 := blk_frozen HO.out.rd 5
  have k5 := blk_cell HO.out.res 5
  have l5 := blk_frozen HO.out.res 5
  have c6 := blk_cell HO.out.rd 6
  have f6 := blk_frozen HO.out.rd 6
  have k6 := blk_cell HO.out.res 6
  have l6 := blk_frozen HO.out.res 6
  simp only [List.getElem?_toArray, List.getElem?_cons_zero, List.getElem?_cons_succ] at c0 c1 c2 c3 c4 c5 c6 k0 k1 k2 k3 k4 k5 k6
  have hne : g ≠ g + 1 := by omega
  have hne2 : g + 1 ≠ g := by omega
  go_wp2_with fail
  refine (closed_F _ _ _ _ HFW.out (by show cell.size ≤ 4096; omega) (by show row.length ≤ 1000000; omega)).mono ?_
  rintro ev w1 ⟨v1, rfl, hv1, hb1_⟩
  generalize hR : closedR ⟨dn, row, cell, 0, bg, err, pl⟩ = R1 at hv1
  have HR1 := Lib.hid hR
  clear hR
  have HV := Lib.hid hv1
  have HWs := Lib.hid (blk_lt HO.out.res)
  have HO1 := Lib.hid (call_keep HO.out hb1_)
  clear c0 f0 k0 l0 c1 f1 k1 l1 c2 f2 k2 l2 c3 f3 k3 l3 c4 f4 k4 l4 c5 f5 k5 l5 c6 f6 k6 l6
  clear HO hb1_ HFW
  have HO := HO1
  clear HO1
  obtain ⟨AA, cA, BB, cB, hv1e, hx⟩ := hv1
  clear hx
  subst hv1e
  have c0 := blk_cell HO.out.rd 0
  have f0 := blk_frozen HO.out.rd 0
  have k0 := blk_cell HO.out.res 0
  have l0 := blk_frozen HO.out.res 0
  have c1 := blk_cell HO.out.rd 1
  have f1 := blk_frozen HO.out.rd 1
  have k1 := blk_cell HO.out.res 1
  have l1 := blk_frozen HO.out.res 1
  have c2 := blk_cell HO.out.rd 2
  have f2 := blk_frozen HO.out.rd 2
  have k2 := blk_cell HO.out.res 2
  have l2 := blk_frozen HO.out.res 2
  have c3 := blk_cell HO.out.rd 3
  have f3 := blk_frozen HO.out.rd 3
  have k3 := blk_cell HO.out.res 3
  have l3 := blk_frozen HO.out.res 3
  have c4 := blk_cell HO.out.rd 4
  have f4 := blk_frozen HO.out.rd 4
  have k4 := blk_cell HO.out.res 4
  have l4 := blk_frozen HO.out.res 4
  have c5 := blk_cell HO.out.rd 5
  have f5 := blk_frozen HO.out.rd 5
  have k5 := blk_cell HO.out.res 5
  have l5 := blk_frozen HO.out.res 5
  have c6 := blk_cell HO.out.rd 6
  have f6 := blk_frozen HO.out.rd 6
  have k6 := blk_cell HO.out.res 6
  have l6 := blk_frozen HO.out.res 6
  simp only [List.getElem?_toArray, List.getElem?_cons_zero, List.getElem?_cons_succ] at c0 c1 c2 c3 c4 c5 c6 k0 k1 k2 k3 k4 k5 k6
  have hne_ : g ≠ g + 1 := by omega
  have hne2_ : g + 1 ≠ g := by omega
  go_upto_region 14 with fail
  have HV2 := Lib.hid (show RdF (((((((w1.setCell ⟨g, 0, none⟩ (.slice AA R1.done.length cA)).setCell ⟨g, 1, none⟩ (.slice BB R1.row.length cB)).setCell ⟨g, 2, none⟩ (.string R1.cell)).setCell ⟨g, 3, none⟩ (.int .i64 R1.st)).setCell ⟨g, 4, none⟩ (.int .i64 R1.bg)).setCell ⟨g, 5, none⟩ (.int .i64 R1.err)).setCell ⟨g, 6, none⟩ (.int .i64 R1.pl)) _ R1 _ from seven_far HV.out (fun k hk => (by have h1 := HG.out; have h2 := HWs.out; rcases hk with ⟨_, hk⟩ | hk <;> omega)) _ _ _ _ _ _ _)
  have HO2 := Lib.hid (show OneAt w (((((((w1.setCell ⟨g, 0, none⟩ (.slice AA R1.done.length cA)).setCell ⟨g, 1, none⟩ (.slice BB R1.row.length cB)).setCell ⟨g, 2, none⟩ (.string R1.cell)).setCell ⟨g, 3, none⟩ (.int .i64 R1.st)).setCell ⟨g, 4, none⟩ (.int .i64 R1.bg)).setCell ⟨g, 5, none⟩ (.int .i64 R1.err)).setCell ⟨g, 6, none⟩ (.int .i64 R1.pl)) g #[.slice AA R1.done.length cA, .slice BB R1.row.length cB, .string R1.cell, .int .i64 R1.st, .int .i64 R1.bg, .int .i64 R1.err, .int .i64 R1.pl] from ⟨HO.out.eg, seven _ _ _ _ _ _ _ _ _ _ _ _ _ _ _ _ HO.out.rd, seven_other HO.out.res hne2 _ _ _ _ _ _ _, seven_below HO.out.bel (by rw [HO.out.eg]; exact Nat.le_refl _) _ _ _ _ _ _ _⟩)
  clear c0 f0 k0 l0 c1 f1 k1 l1 c2 f2 k2 l2 c3 f3 k3 l3 c4 f4 k4 l4 c5 f5 k5 l5 c6 f6 k6 l6
  clear HO HV
  have HO := HO2
  have HV := HV2
  clear HO2 HV2
  generalize (((((((w1.setCell ⟨g, 0, none⟩ (.slice AA R1.done.length cA)).setCell ⟨g, 1, none⟩ (.slice BB R1.row.length cB)).setCell ⟨g, 2, none⟩ (.string R1.cell)).setCell ⟨g, 3, none⟩ (.int .i64 R1.st)).setCell ⟨g, 4, none⟩ (.int .i64 R1.bg)).setCell ⟨g, 5, none⟩ (.int .i64 R1.err)).setCell ⟨g, 6, none⟩ (.int .i64 R1.pl)) = w2 at HO HV ⊢
  have c0 := blk_cell HO.out.rd 0
  have f0 := blk_frozen HO.out.rd 0
  have k0 := blk_cell HO.out.res 0
  have l0 := blk_frozen HO.out.res 0
  have c1 := blk_cell HO.out.rd 1
  have f1 := blk_frozen HO.out.rd 1
  have k1 := blk_cell HO.out.res 1
  have l1 := blk_frozen HO.out.res 1
  have c2 := blk_cell HO.out.rd 2
  have f2 := blk_frozen HO.out.rd 2
  have k2 := blk_cell HO.out.res 2
  have l2 := blk_frozen HO.out.res 2
  have c3 := blk_cell HO.out.rd 3
  have f3 := blk_frozen HO.out.rd 3
  have k3 := blk_cell HO.out.res 3
  have l3 := blk_frozen HO.out.res 3
  have c4 := blk_cell HO.out.rd 4
  have f4 := blk_frozen HO.out.rd 4
  have k4 := blk_cell HO.out.res 4
  have l4 := blk_frozen HO.out.res 4
  have c5 := blk_cell HO.out.rd 5
  have f5 := blk_frozen HO.out.rd 5
  have k5 := blk_cell HO.out.res 5
  have l5 := blk_frozen HO.out.res 5
  have c6 := blk_cell HO.out.rd 6
  have f6 := blk_frozen HO.out.rd 6
  have k6 := blk_cell HO.out.res 6
  have l6 := blk_frozen HO.out.res 6
  simp only [List.getElem?_toArray, List.getElem?_cons_zero, List.getElem?_cons_succ] at c0 c1 c2 c3 c4 c5 c6 k0 k1 k2 k3 k4 k5 k6
  have hne__ : g ≠ g + 1 := by omega
  have hne2__ : g + 1 ≠ g := by omega
  go_wp2
  have eg := HG.out
  have eW := HWs.out
  have N1 : ∀ k, ((P k ∧ k < w.heap.size) ∨ W.heap.size ≤ k) → k ≠ g := fun k hk => by rcases hk with ⟨_, hk⟩ | hk <;> omega
  have N2 : ∀ k, ((P k ∧ k < w.heap.size) ∨ W.heap.size ≤ k) → k ≠ g + 1 := fun k hk => by rcases hk with ⟨_, hk⟩ | hk <;> omega
  have N3 : ∀ k, ((P k ∧ k < w.heap.size) ∨ W.heap.size ≤ k) → (P k ∨ w.heap.size ≤ k) := fun k hk => hk.elim (fun h => Or.inl h.1) (fun h => Or.inr (by omega))
  have P1 := other4 HO.out.res hne2 (.int .i64 ((p : Int) + 1))
  have P2 : Below w.heap.size w (w2.setCell ⟨g, 4, none⟩ (.int .i64 ((p : Int) + 1))) := below_set HO.out.bel (by rw [HO.out.eg]; exact Nat.le_refl _)
  have P3 := (HV.out.bg ((p : Int) + 1)).far (p := ⟨g, 4, none⟩) N1 (.int .i64 ((p : Int) + 1))
  have e2 : w.heap.size ≤ g + 1 := by omega
  have eR := HR1.out
  clear HO HV HG HWs eg eW N1 c0 f0 k0 l0 c1 f1 k1 l1 c2 f2 k2 l2 c3 f3 k3 l3 c4 f4 k4 l4 c5 f5 k5 l5 c6 f6 k6 l6
  generalize w2.setCell ⟨g, 4, none⟩ (.int .i64 ((p : Int) + 1)) = w3 at P1 P2 P3 ⊢
  refine bodyPost_ret (results_ct (fn := Try.f63) (p := 8) (u := 9) (ty := 82) rfl _ _ (g + 1) 82 _ (0, 0) _ (by rfl) (by exact seven _ _ _ _ _ _ _ _ _ _ _ _ _ _ _ _ P1) Try.underlying82 rfl (by kernel_rfl)) rfl ?_
  refine ⟨_, rfl, ?_, seven_below P2 e2 _ _ _ _ _ _ _⟩
  rw [eR]
  exact (seven_far P3 N2 _ _ _ _ _ _ _).mono N3
set_option maxHeartbeats 4000000 in
set_option maxRecDepth 100000 in
theorem one_delim1 (s : ByteArray) (p : Nat) (d : Int) (v : Value) (dn : List (List ByteArray)) (row : List ByteArray) (cell : ByteArray) (bg err pl : Int) (w : World) (hp : p < s.size) (hs : s.size ≤ 3000) (P : Nat → Prop) (hr : RdF w v ⟨dn, row, cell, 1, bg, err, pl⟩ P) (hd : bt s p = d) (hc : cell.size ≤ 3000) (hl : row.length ≤ 10000) :
    Calls Try.prog 63 #[.string s, .int .i64 p, .int .u8 d, v] w fun ev w' => ∃ v', ev = .returned (.tuple #[v', .int .i64 1]) ∧ RdF w' v' { closedR ⟨dn, row, cell, 1, bg, err, pl⟩ with bg := (p : Int) + 1 } (fun k => P k ∨ w.heap.size ≤ k) ∧ Below w.heap.size w w' := by
  have hb1 : wrap64 ((p : Int) + 1) = (p : Int) + 1 := by rw [show (1 : Int) = ((1 : Nat) : Int) from rfl, wrap_nat p 1 (by omega)]; rfl
  have hbd : (bt s p == d) = true := beq_iff_eq.2 hd
  clear hd
  have HF := Lib.hid hr.bound
  obtain ⟨A, c, B, e, hv, hx⟩ := hr
  clear hx
  dsimp only at hv
  subst hv
  have hp0 : (0 : Int) ≤ p := by omega
  have hp1 : (p : Int) < s.size := by omega
  rw [bt_at s p hp] at *
  have HBr := Lib.hid (ref02_Break_at s p 0 hp (by omega))
  go_enter Try.func63, Try.ntmps63
  go_wp2_with fail
  refine (tartanref02_Break.calls 1 s p _ _ HBr.out).mono ?_
  rintro ev w' ⟨rfl, ⟨nd, rfl⟩⟩
  have HO := Lib.hid (oneAt w #[Value.slice A dn.length c, Value.slice B row.length e, Value.string cell, Value.int IntKind.i64 1, Value.int IntKind.i64 bg, Value.int IntKind.i64 err, Value.int IntKind.i64 pl] nd)
  generalize hg : w.heap.size = g at HO ⊢
  have HG := Lib.hid hg
  clear hg
  generalize (((w.alloc (Obj.cells #[Value.slice A dn.length c, Value.slice B row.length e, Value.string cell, Value.int IntKind.i64 1, Value.int IntKind.i64 bg, Value.int IntKind.i64 err, Value.int IntKind.i64 pl] 82)).alloc (Obj.cells #[Value.slice none 0 0, Value.slice none 0 0, Value.string { data := #[] }, Value.int IntKind.i64 0, Value.int IntKind.i64 0, Value.int IntKind.i64 0, Value.int IntKind.i64 0] 82)).drewN nd) = W at HO ⊢
  have HFW := Lib.hid (HF.out.below HO.out.bel)
  clear HF
  have c0 := blk_cell HO.out.rd 0
  have f0 := blk_frozen HO.out.rd 0
  have k0 := blk_cell HO.out.res 0
  have l0 := blk_frozen HO.out.res 0
  have c1 := blk_cell HO.out.rd 1
  have f1 := blk_frozen HO.out.rd 1
  have k1 := blk_cell HO.out.res 1
  have l1 := blk_frozen HO.out.res 1
  have c2 := blk_cell HO.out.rd 2
  have f2 := blk_frozen HO.out.rd 2
  have k2 := blk_cell HO.out.res 2
  have l2 := blk_frozen HO.out.res 2
  have c3 := blk_cell HO.out.rd 3
  have f3 := blk_frozen HO.out.rd 3
  have k3 := blk_cell HO.out.res 3
  have l3 := blk_frozen HO.out.res 3
  have c4 := blk_cell HO.out.rd 4
  have f4 := blk_frozen HO.out.rd 4
  have k4 := blk_cell HO.out.res 4
  have l4 := blk_frozen HO.out.res 4
  have c5 := blk_cell HO.out.rd 5
  have f5 := blk_frozen HO.out.rd 5
  have k5 := blk_cell HO.out.res 5
  have l5 := blk_frozen HO.out.res 5
  have c6 := blk_cell HO.out.rd 6
  have f6 := blk_frozen HO.out.rd 6
  have k6 := blk_cell HO.out.res 6
  have l6 := blk_frozen HO.out.res 6
  simp only [List.getElem?_toArray, List.getElem?_cons_zero, List.getElem?_cons_succ] at c0 c1 c2 c3 c4 c5 c6 k0 k1 k2 k3 k4 k5 k6
  have hne : g ≠ g + 1 := by omega
  have hne2 : g + 1 ≠ g := by omega
  go_wp2_with fail
  refine (closed_F _ _ _ _ HFW.out (by show cell.size ≤ 4096; omega) (by show row.length ≤ 1000000; omega)).mono ?_
  rintro ev w1 ⟨v1, rfl, hv1, hb1_⟩
  generalize hR : closedR ⟨dn, row, cell, 1, bg, err, pl⟩ = R1 at hv1
  have HR1 := Lib.hid hR
  clear hR
  have HV := Lib.hid hv1
  have HWs := Lib.hid (blk_lt HO.out.res)
  have HO1 := Lib.hid (call_keep HO.out hb1_)
  clear c0 f0 k0 l0 c1 f1 k1 l1 c2 f2 k2 l2 c3 f3 k3 l3 c4 f4 k4 l4 c5 f5 k5 l5 c6 f6 k6 l6
  clear HO hb1_ HFW
  have HO := HO1
  clear HO1
  obtain ⟨AA, cA, BB, cB, hv1e, hx⟩ := hv1
  clear hx
  subst hv1e
  have c0 := blk_cell HO.out.rd 0
  have f0 := blk_frozen HO.out.rd 0
  have k0 := blk_cell HO.out.res 0
  have l0 := blk_frozen HO.out.res 0
  have c1 := blk_cell HO.out.rd 1
  have f1 := blk_frozen HO.out.rd 1
  have k1 := blk_cell HO.out.res 1
  have l1 := blk_frozen HO.out.res 1
  have c2 := blk_cell HO.out.rd 2
  have f2 := blk_frozen HO.out.rd 2
  have k2 := blk_cell HO.out.res 2
  have l2 := blk_frozen HO.out.res 2
  have c3 := blk_cell HO.out.rd 3
  have f3 := blk_frozen HO.out.rd 3
  have k3 := blk_cell HO.out.res 3
  have l3 := blk_frozen HO.out.res 3
  have c4 := blk_cell HO.out.rd 4
  have f4 := blk_frozen HO.out.rd 4
  have k4 := blk_cell HO.out.res 4
  have l4 := blk_frozen HO.out.res 4
  have c5 := blk_cell HO.out.rd 5
  have f5 := blk_frozen HO.out.rd 5
  have k5 := blk_cell HO.out.res 5
  have l5 := blk_frozen HO.out.res 5
  have c6 := blk_cell HO.out.rd 6
  have f6 := blk_frozen HO.out.rd 6
  have k6 := blk_cell HO.out.res 6
  have l6 := blk_frozen HO.out.res 6
  simp only [List.getElem?_toArray, List.getElem?_cons_zero, List.getElem?_cons_succ] at c0 c1 c2 c3 c4 c5 c6 k0 k1 k2 k3 k4 k5 k6
  have hne_ : g ≠ g + 1 := by omega
  have hne2_ : g + 1 ≠ g := by omega
  go_upto_region 14 with fail
  have HV2 := Lib.hid (show RdF (((((((w1.setCell ⟨g, 0, none⟩ (.slice AA R1.done.length cA)).setCell ⟨g, 1, none⟩ (.slice BB R1.row.length cB)).setCell ⟨g, 2, none⟩ (.string R1.cell)).setCell ⟨g, 3, none⟩ (.int .i64 R1.st)).setCell ⟨g, 4, none⟩ (.int .i64 R1.bg)).setCell ⟨g, 5, none⟩ (.int .i64 R1.err)).setCell ⟨g, 6, none⟩ (.int .i64 R1.pl)) _ R1 _ from seven_far HV.out (fun k hk => (by have h1 := HG.out; have h2 := HWs.out; rcases hk with ⟨_, hk⟩ | hk <;> omega)) _ _ _ _ _ _ _)
  have HO2 := Lib.hid (show OneAt w (((((((w1.setCell ⟨g, 0, none⟩ (.slice AA R1.done.length cA)).setCell ⟨g, 1, none⟩ (.slice BB R1.row.length cB)).setCell ⟨g, 2, none⟩ (.string R1.cell)).setCell ⟨g, 3, none⟩ (.int .i64 R1.st)).setCell ⟨g, 4, none⟩ (.int .i64 R1.bg)).setCell ⟨g, 5, none⟩ (.int .i64 R1.err)).setCell ⟨g, 6, none⟩ (.int .i64 R1.pl)) g #[.slice AA R1.done.length cA, .slice BB R1.row.length cB, .string R1.cell, .int .i64 R1.st, .int .i64 R1.bg, .int .i64 R1.err, .int .i64 R1.pl] from ⟨HO.out.eg, seven _ _ _ _ _ _ _ _ _ _ _ _ _ _ _ _ HO.out.rd, seven_other HO.out.res hne2 _ _ _ _ _ _ _, seven_below HO.out.bel (by rw [HO.out.eg]; exact Nat.le_refl _) _ _ _ _ _ _ _⟩)
  clear c0 f0 k0 l0 c1 f1 k1 l1 c2 f2 k2 l2 c3 f3 k3 l3 c4 f4 k4 l4 c5 f5 k5 l5 c6 f6 k6 l6
  clear HO HV
  have HO := HO2
  have HV := HV2
  clear HO2 HV2
  generalize (((((((w1.setCell ⟨g, 0, none⟩ (.slice AA R1.done.length cA)).setCell ⟨g, 1, none⟩ (.slice BB R1.row.length cB)).setCell ⟨g, 2, none⟩ (.string R1.cell)).setCell ⟨g, 3, none⟩ (.int .i64 R1.st)).setCell ⟨g, 4, none⟩ (.int .i64 R1.bg)).setCell ⟨g, 5, none⟩ (.int .i64 R1.err)).setCell ⟨g, 6, none⟩ (.int .i64 R1.pl)) = w2 at HO HV ⊢
  have c0 := blk_cell HO.out.rd 0
  have f0 := blk_frozen HO.out.rd 0
  have k0 := blk_cell HO.out.res 0
  have l0 := blk_frozen HO.out.res 0
  have c1 := blk_cell HO.out.rd 1
  have f1 := blk_frozen HO.out.rd 1
  have k1 := blk_cell HO.out.res 1
  have l1 := blk_frozen HO.out.res 1
  have c2 := blk_cell HO.out.rd 2
  have f2 := blk_frozen HO.out.rd 2
  have k2 := blk_cell HO.out.res 2
  have l2 := blk_frozen HO.out.res 2
  have c3 := blk_cell HO.out.rd 3
  have f3 := blk_frozen HO.out.rd 3
  have k3 := blk_cell HO.out.res 3
  have l3 := blk_frozen HO.out.res 3
  have c4 := blk_cell HO.out.rd 4
  have f4 := blk_frozen HO.out.rd 4
  have k4 := blk_cell HO.out.res 4
  have l4 := blk_frozen HO.out.res 4
  have c5 := blk_cell HO.out.rd 5
  have f5 := blk_frozen HO.out.rd 5
  have k5 := blk_cell HO.out.res 5
  have l5 := blk_frozen HO.out.res 5
  have c6 := blk_cell HO.out.rd 6
  have f6 := blk_frozen HO.out.rd 6
  have k6 := blk_cell HO.out.res 6
  have l6 := blk_frozen HO.out.res 6
  simp only [List.getElem?_toArray, List.getElem?_cons_zero, List.getElem?_cons_succ] at c0 c1 c2 c3 c4 c5 c6 k0 k1 k2 k3 k4 k5 k6
  have hne__ : g ≠ g + 1 := by omega
  have hne2__ : g + 1 ≠ g := by omega
  go_wp2
  have eg := HG.out
  have eW := HWs.out
  have N1 : ∀ k, ((P k ∧ k < w.heap.size) ∨ W.heap.size ≤ k) → k ≠ g := fun k hk => by rcases hk with ⟨_, hk⟩ | hk <;> omega
  have N2 : ∀ k, ((P k ∧ k < w.heap.size) ∨ W.heap.size ≤ k) → k ≠ g + 1 := fun k hk => by rcases hk with ⟨_, hk⟩ | hk <;> omega
  have N3 : ∀ k, ((P k ∧ k < w.heap.size) ∨ W.heap.size ≤ k) → (P k ∨ w.heap.size ≤ k) := fun k hk => hk.elim (fun h => Or.inl h.1) (fun h => Or.inr (by omega))
  have P1 := other4 HO.out.res hne2 (.int .i64 ((p : Int) + 1))
  have P2 : Below w.heap.size w (w2.setCell ⟨g, 4, none⟩ (.int .i64 ((p : Int) + 1))) := below_set HO.out.bel (by rw [HO.out.eg]; exact Nat.le_refl _)
  have P3 := (HV.out.bg ((p : Int) + 1)).far (p := ⟨g, 4, none⟩) N1 (.int .i64 ((p : Int) + 1))
  have e2 : w.heap.size ≤ g + 1 := by omega
  have eR := HR1.out
  clear HO HV HG HWs eg eW N1 c0 f0 k0 l0 c1 f1 k1 l1 c2 f2 k2 l2 c3 f3 k3 l3 c4 f4 k4 l4 c5 f5 k5 l5 c6 f6 k6 l6
  generalize w2.setCell ⟨g, 4, none⟩ (.int .i64 ((p : Int) + 1)) = w3 at P1 P2 P3 ⊢
  refine bodyPost_ret (results_ct (fn := Try.f63) (p := 8) (u := 9) (ty := 82) rfl _ _ (g + 1) 82 _ (0, 0) _ (by rfl) (by exact seven _ _ _ _ _ _ _ _ _ _ _ _ _ _ _ _ P1) Try.underlying82 rfl (by kernel_rfl)) rfl ?_
  refine ⟨_, rfl, ?_, seven_below P2 e2 _ _ _ _ _ _ _⟩
  rw [eR]
  exact (seven_far P3 N2 _ _ _ _ _ _ _).mono N3
set_option maxHeartbeats 4000000 in
set_option maxRecDepth 100000 in
theorem one_delim3 (s : ByteArray) (p : Nat) (d : Int) (v : Value) (dn : List (List ByteArray)) (row : List ByteArray) (cell : ByteArray) (bg err pl : Int) (w : World) (hp : p < s.size) (hs : s.size ≤ 3000) (P : Nat → Prop) (hr : RdF w v ⟨dn, row, cell, 3, bg, err, pl⟩ P) (hb : bt s p ≠ 34) (hd : bt s p = d) (hc : cell.size ≤ 3000) (hl : row.length ≤ 10000) :
    Calls Try.prog 63 #[.string s, .int .i64 p, .int .u8 d, v] w fun ev w' => ∃ v', ev = .returned (.tuple #[v', .int .i64 1]) ∧ RdF w' v' { closedR ⟨dn, row, cell, 3, bg, err, pl⟩ with bg := (p : Int) + 1 } (fun k => P k ∨ w.heap.size ≤ k) ∧ Below w.heap.size w w' := by
  have hb1 : wrap64 ((p : Int) + 1) = (p : Int) + 1 := by rw [show (1 : Int) = ((1 : Nat) : Int) from rfl, wrap_nat p 1 (by omega)]; rfl
  have hbd : (bt s p == d) = true := beq_iff_eq.2 hd
  clear hd
  have hb2 : (bt s p == 34) = false := beq_eq_false_iff_ne.2 hb
  clear hb
  have HF := Lib.hid hr.bound
  obtain ⟨A, c, B, e, hv, hx⟩ := hr
  clear hx
  dsimp only at hv
  subst hv
  have hp0 : (0 : Int) ≤ p := by omega
  have hp1 : (p : Int) < s.size := by omega
  rw [bt_at s p hp] at *
  have HBr := Lib.hid (ref02_Break_at s p 0 hp (by omega))
  go_enter Try.func63, Try.ntmps63
  go_wp2_with fail
  refine (tartanref02_Break.calls 1 s p _ _ HBr.out).mono ?_
  rintro ev w' ⟨rfl, ⟨nd, rfl⟩⟩
  have HO := Lib.hid (oneAt w #[Value.slice A dn.length c, Value.slice B row.length e, Value.string cell, Value.int IntKind.i64 3, Value.int IntKind.i64 bg, Value.int IntKind.i64 err, Value.int IntKind.i64 pl] nd)
  generalize hg : w.heap.size = g at HO ⊢
  have HG := Lib.hid hg
  clear hg
  generalize (((w.alloc (Obj.cells #[Value.slice A dn.length c, Value.slice B row.length e, Value.string cell, Value.int IntKind.i64 3, Value.int IntKind.i64 bg, Value.int IntKind.i64 err, Value.int IntKind.i64 pl] 82)).alloc (Obj.cells #[Value.slice none 0 0, Value.slice none 0 0, Value.string { data := #[] }, Value.int IntKind.i64 0, Value.int IntKind.i64 0, Value.int IntKind.i64 0, Value.int IntKind.i64 0] 82)).drewN nd) = W at HO ⊢
  have HFW := Lib.hid (HF.out.below HO.out.bel)
  clear HF
  have c0 := blk_cell HO.out.rd 0
  have f0 := blk_frozen HO.out.rd 0
  have k0 := blk_cell HO.out.res 0
  have l0 := blk_frozen HO.out.res 0
  have c1 := blk_cell HO.out.rd 1
  have f1 := blk_frozen HO.out.rd 1
  have k1 := blk_cell HO.out.res 1
  have l1 := blk_frozen HO.out.res 1
  have c2 := blk_cell HO.out.rd 2
  have f2 := blk_frozen HO.out.rd 2
  have k2 := blk_cell HO.out.res 2
  have l2 := blk_frozen HO.out.res 2
  have c3 := blk_cell HO.out.rd 3
  have f3 := blk_frozen HO.out.rd 3
  have k3 := blk_cell HO.out.res 3
  have l3 := blk_frozen HO.out.res 3
  have c4 := blk_cell HO.out.rd 4
  have f4 := blk_frozen HO.out.rd 4
  have k4 := blk_cell HO.out.res 4
  have l4 := blk_frozen HO.out.res 4
  have c5 := blk_cell HO.out.rd 5
  have f5 := blk_frozen HO.out.rd 5
  have k5 := blk_cell HO.out.res 5
  have l5 := blk_frozen HO.out.res 5
  have c6 := blk_cell HO.out.rd 6
  have f6 := blk_frozen HO.out.rd 6
  have k6 := blk_cell HO.out.res 6
  have l6 := blk_frozen HO.out.res 6
  simp only [List.getElem?_toArray, List.getElem?_cons_zero, List.getElem?_cons_succ] at c0 c1 c2 c3 c4 c5 c6 k0 k1 k2 k3 k4 k5 k6
  have hne : g ≠ g + 1 := by omega
  have hne2 : g + 1 ≠ g := by omega
  go_wp2_with fail
  refine (closed_F _ _ _ _ HFW.out (by show cell.size ≤ 4096; omega) (by show row.length ≤ 1000000; omega)).mono ?_
  rintro ev w1 ⟨v1, rfl, hv1, hb1_⟩
  generalize hR : closedR ⟨dn, row, cell, 3, bg, err, pl⟩ = R1 at hv1
  have HR1 := Lib.hid hR
  clear hR
  have HV := Lib.hid hv1
  have HWs := Lib.hid (blk_lt HO.out.res)
  have HO1 := Lib.hid (call_keep HO.out hb1_)
  clear c0 f0 k0 l0 c1 f1 k1 l1 c2 f2 k2 l2 c3 f3 k3 l3 c4 f4 k4 l4 c5 f5 k5 l5 c6 f6 k6 l6
  clear HO hb1_ HFW
  have HO := HO1
  clear HO1
  obtain ⟨AA, cA, BB, cB, hv1e, hx⟩ := hv1
  clear hx
  subst hv1e
  have c0 := blk_cell HO.out.rd 0
  have f0 := blk_frozen HO.out.rd 0
  have k0 := blk_cell HO.out.res 0
  have l0 := blk_frozen HO.out.res 0
  have c1 := blk_cell HO.out.rd 1
  have f1 := blk_frozen HO.out.rd 1
  have k1 := blk_cell HO.out.res 1
  have l1 := blk_frozen HO.out.res 1
  have c2 := blk_cell HO.out.rd 2
  have f2 := blk_frozen HO.out.rd 2
  have k2 := blk_cell HO.out.res 2
  have l2 := blk_frozen HO.out.res 2
  have c3 := blk_cell HO.out.rd 3
  have f3 := blk_frozen HO.out.rd 3
  have k3 := blk_cell HO.out.res 3
  have l3 := blk_frozen HO.out.res 3
  have c4 := blk_cell HO.out.rd 4
  have f4 := blk_frozen HO.out.rd 4
  have k4 := blk_cell HO.out.res 4
  have l4 := blk_frozen HO.out.res 4
  have c5 := blk_cell HO.out.rd 5
  have f5 := blk_frozen HO.out.rd 5
  have k5 := blk_cell HO.out.res 5
  have l5 := blk_frozen HO.out.res 5
  have c6 := blk_cell HO.out.rd 6
  have f6 := blk_frozen HO.out.rd 6
  have k6 := blk_cell HO.out.res 6
  have l6 := blk_frozen HO.out.res 6
  simp only [List.getElem?_toArray, List.getElem?_cons_zero, List.getElem?_cons_succ] at c0 c1 c2 c3 c4 c5 c6 k0 k1 k2 k3 k4 k5 k6
  have hne_ : g ≠ g + 1 := by omega
  have hne2_ : g + 1 ≠ g := by omega
  go_upto_region 14 with fail
  have HV2 := Lib.hid (show RdF (((((((w1.setCell ⟨g, 0, none⟩ (.slice AA R1.done.length cA)).setCell ⟨g, 1, none⟩ (.slice BB R1.row.length cB)).setCell ⟨g, 2, none⟩ (.string R1.cell)).setCell ⟨g, 3, none⟩ (.int .i64 R1.st)).setCell ⟨g, 4, none⟩ (.int .i64 R1.bg)).setCell ⟨g, 5, none⟩ (.int .i64 R1.err)).setCell ⟨g, 6, none⟩ (.int .i64 R1.pl)) _ R1 _ from seven_far HV.out (fun k hk => (by have h1 := HG.out; have h2 := HWs.out; rcases hk with ⟨_, hk⟩ | hk <;> omega)) _ _ _ _ _ _ _)
  have HO2 := Lib.hid (show OneAt w (((((((w1.setCell ⟨g, 0, none⟩ (.slice AA R1.done.length cA)).setCell ⟨g, 1, none⟩ (.slice BB R1.row.length cB)).setCell ⟨g, 2, none⟩ (.string R1.cell)).setCell ⟨g, 3, none⟩ (.int .i64 R1.st)).setCell ⟨g, 4, none⟩ (.int .i64 R1.bg)).setCell ⟨g, 5, none⟩ (.int .i64 R1.err)).setCell ⟨g, 6, none⟩ (.int .i64 R1.pl)) g #[.slice AA R1.done.length cA, .slice BB R1.row.length cB, .string R1.cell, .int .i64 R1.st, .int .i64 R1.bg, .int .i64 R1.err, .int .i64 R1.pl] from ⟨HO.out.eg, seven _ _ _ _ _ _ _ _ _ _ _ _ _ _ _ _ HO.out.rd, seven_other HO.out.res hne2 _ _ _ _ _ _ _, seven_below HO.out.bel (by rw [HO.out.eg]; exact Nat.le_refl _) _ _ _ _ _ _ _⟩)
  clear c0 f0 k0 l0 c1 f1 k1 l1 c2 f2 k2 l2 c3 f3 k3 l3 c4 f4 k4 l4 c5 f5 k5 l5 c6 f6 k6 l6
  clear HO HV
  have HO := HO2
  have HV := HV2
  clear HO2 HV2
  generalize (((((((w1.setCell ⟨g, 0, none⟩ (.slice AA R1.done.length cA)).setCell ⟨g, 1, none⟩ (.slice BB R1.row.length cB)).setCell ⟨g, 2, none⟩ (.string R1.cell)).setCell ⟨g, 3, none⟩ (.int .i64 R1.st)).setCell ⟨g, 4, none⟩ (.int .i64 R1.bg)).setCell ⟨g, 5, none⟩ (.int .i64 R1.err)).setCell ⟨g, 6, none⟩ (.int .i64 R1.pl)) = w2 at HO HV ⊢
  have c0 := blk_cell HO.out.rd 0
  have f0 := blk_frozen HO.out.rd 0
  have k0 := blk_cell HO.out.res 0
  have l0 := blk_frozen HO.out.res 0
  have c1 := blk_cell HO.out.rd 1
  have f1 := blk_frozen HO.out.rd 1
  have k1 := blk_cell HO.out.res 1
  have l1 := blk_frozen HO.out.res 1
  have c2 := blk_cell HO.out.rd 2
  have f2 := blk_frozen HO.out.rd 2
  have k2 := blk_cell HO.out.res 2
  have l2 := blk_frozen HO.out.res 2
  have c3 := blk_cell HO.out.rd 3
  have f3 := blk_frozen HO.out.rd 3
  have k3 := blk_cell HO.out.res 3
  have l3 := blk_frozen HO.out.res 3
  have c4 := blk_cell HO.out.rd 4
  have f4 := blk_frozen HO.out.rd 4
  have k4 := blk_cell HO.out.res 4
  have l4 := blk_frozen HO.out.res 4
  have c5 := blk_cell HO.out.rd 5
  have f5 := blk_frozen HO.out.rd 5
  have k5 := blk_cell HO.out.res 5
  have l5 := blk_frozen HO.out.res 5
  have c6 := blk_cell HO.out.rd 6
  have f6 := blk_frozen HO.out.rd 6
  have k6 := blk_cell HO.out.res 6
  have l6 := blk_frozen HO.out.res 6
  simp only [List.getElem?_toArray, List.getElem?_cons_zero, List.getElem?_cons_succ] at c0 c1 c2 c3 c4 c5 c6 k0 k1 k2 k3 k4 k5 k6
  have hne__ : g ≠ g + 1 := by omega
  have hne2__ : g + 1 ≠ g := by omega
  go_wp2
  have eg := HG.out
  have eW := HWs.out
  have N1 : ∀ k, ((P k ∧ k < w.heap.size) ∨ W.heap.size ≤ k) → k ≠ g := fun k hk => by rcases hk with ⟨_, hk⟩ | hk <;> omega
  have N2 : ∀ k, ((P k ∧ k < w.heap.size) ∨ W.heap.size ≤ k) → k ≠ g + 1 := fun k hk => by rcases hk with ⟨_, hk⟩ | hk <;> omega
  have N3 : ∀ k, ((P k ∧ k < w.heap.size) ∨ W.heap.size ≤ k) → (P k ∨ w.heap.size ≤ k) := fun k hk => hk.elim (fun h => Or.inl h.1) (fun h => Or.inr (by omega))
  have P1 := other4 HO.out.res hne2 (.int .i64 ((p : Int) + 1))
  have P2 : Below w.heap.size w (w2.setCell ⟨g, 4, none⟩ (.int .i64 ((p : Int) + 1))) := below_set HO.out.bel (by rw [HO.out.eg]; exact Nat.le_refl _)
  have P3 := (HV.out.bg ((p : Int) + 1)).far (p := ⟨g, 4, none⟩) N1 (.int .i64 ((p : Int) + 1))
  have e2 : w.heap.size ≤ g + 1 := by omega
  have eR := HR1.out
  clear HO HV HG HWs eg eW N1 c0 f0 k0 l0 c1 f1 k1 l1 c2 f2 k2 l2 c3 f3 k3 l3 c4 f4 k4 l4 c5 f5 k5 l5 c6 f6 k6 l6
  generalize w2.setCell ⟨g, 4, none⟩ (.int .i64 ((p : Int) + 1)) = w3 at P1 P2 P3 ⊢
  refine bodyPost_ret (results_ct (fn := Try.f63) (p := 8) (u := 9) (ty := 82) rfl _ _ (g + 1) 82 _ (0, 0) _ (by rfl) (by exact seven _ _ _ _ _ _ _ _ _ _ _ _ _ _ _ _ P1) Try.underlying82 rfl (by kernel_rfl)) rfl ?_
  refine ⟨_, rfl, ?_, seven_below P2 e2 _ _ _ _ _ _ _⟩
  rw [eR]
  exact (seven_far P3 N2 _ _ _ _ _ _ _).mono N3
set_option maxHeartbeats 4000000 in
set_option maxRecDepth 100000 in
theorem one_break0 (s : ByteArray) (p : Nat) (d : Int) (v : Value) (dn : List (List ByteArray)) (row : List ByteArray) (cell : ByteArray) (bg err pl : Int) (w : World) (hp : p < s.size) (hs : s.size ≤ 3000) (P : Nat → Prop) (hr : RdF w v ⟨dn, row, cell, 0, bg, err, pl⟩ P) (hd : bt s p ≠ d) (hn0 : 0 < breakR ((toBs s).drop p)) (hc : cell.size ≤ 3000) (hl : row.length ≤ 10000) (hdn : dn.length ≤ 10000) (he : err = 0) :
    Calls Try.prog 63 #[.string s, .int .i64 p, .int .u8 d, v] w fun ev w' => ∃ v', ev = .returned (.tuple #[v', .int .i64 ((breakR ((toBs s).drop p) : Nat) : Int)]) ∧ RdF w' v' { recordR ⟨dn, row, cell, 0, bg, err, pl⟩ with bg := (p : Int) + ((breakR ((toBs s).drop p) : Nat) : Int) } (fun k => P k ∨ w.heap.size ≤ k) ∧ Below w.heap.size w w' := by
  have HE := Lib.hid (show (⟨dn, row, cell, 0, bg, err, pl⟩ : Rd).err = 0 from he)
  clear he
  obtain ⟨nb, hnb⟩ : ∃ nb : Int, nb = ((breakR ((toBs s).drop p) : Nat) : Int) := ⟨_, rfl⟩
  have hle := breakR_le ((toBs s).drop p)
  have hnb0 : 0 < nb := by omega
  have hnb2 : decide (0 < nb) = true := decide_eq_true hnb0
  have hbn : wrap64 ((p : Int) + nb) = (p : Int) + nb := by rw [hnb, wrap_nat p _ (by omega)]; rfl
  clear hnb0 hle hn0
  rw [← hnb]
  have hbd : (bt s p == d) = false := beq_eq_false_iff_ne.2 hd
  clear hd
  have HF := Lib.hid hr.bound
  obtain ⟨A, c, B, e, hv, hx⟩ := hr
  clear hx
  dsimp only at hv
  subst hv
  have hp0 : (0 : Int) ≤ p := by omega
  have hp1 : (p : Int) < s.size := by omega
  rw [bt_at s p hp] at *
  have HBr := Lib.hid (show tartanref02_Break.f 1 s p = some nb by rw [ref02_Break_at s p 0 hp (by omega), hnb])
  clear hnb
  go_enter Try.func63, Try.ntmps63
  go_wp2_with fail
  refine (tartanref02_Break.calls 1 s p _ _ HBr.out).mono ?_
  rintro ev w' ⟨rfl, ⟨nd, rfl⟩⟩
  have HO := Lib.hid (oneAt w #[Value.slice A dn.length c, Value.slice B row.length e, Value.string cell, Value.int IntKind.i64 0, Value.int IntKind.i64 bg, Value.int IntKind.i64 err, Value.int IntKind.i64 pl] nd)
  generalize hg : w.heap.size = g at HO ⊢
  have HG := Lib.hid hg
  clear hg
  generalize (((w.alloc (Obj.cells #[Value.slice A dn.length c, Value.slice B row.length e, Value.string cell, Value.int IntKind.i64 0, Value.int IntKind.i64 bg, Value.int IntKind.i64 err, Value.int IntKind.i64 pl] 82)).alloc (Obj.cells #[Value.slice none 0 0, Value.slice none 0 0, Value.string { data := #[] }, Value.int IntKind.i64 0, Value.int IntKind.i64 0, Value.int IntKind.i64 0, Value.int IntKind.i64 0] 82)).drewN nd) = W at HO ⊢
  have HFW := Lib.hid (HF.out.below HO.out.bel)
  clear HF
  have c0 := blk_cell HO.out.rd 0
  have f0 := blk_frozen HO.out.rd 0
  have k0 := blk_cell HO.out.res 0
  have l0 := blk_frozen HO.out.res 0
  have c1 := blk_cell HO.out.rd 1
  have f1 := blk_frozen HO.out.rd 1
  have k1 := blk_cell HO.out.res 1
  have l1 := blk_frozen HO.out.res 1
  have c2 := blk_cell HO.out.rd 2
  have f2 := blk_frozen HO.out.rd 2
  have k2 := blk_cell HO.out.res 2
  have l2 := blk_frozen HO.out.res 2
  have c3 := blk_cell HO.out.rd 3
  have f3 := blk_frozen HO.out.rd 3
  have k3 := blk_cell HO.out.res 3
  have l3 := blk_frozen HO.out.res 3
  have c4 := blk_cell HO.out.rd 4
  have f4 := blk_frozen HO.out.rd 4
  have k4 := blk_cell HO.out.res 4
  have l4 := blk_frozen HO.out.res 4
  have c5 := blk_cell HO.out.rd 5
  have f5 := blk_frozen HO.out.rd 5
  have k5 := blk_cell HO.out.res 5
  have l5 := blk_frozen HO.out.res 5
  have c6 := blk_cell HO.out.rd 6
  have f6 := blk_frozen HO.out.rd 6
  have k6 := blk_cell HO.out.res 6
  have l6 := blk_frozen HO.out.res 6
  simp only [List.getElem?_toArray, List.getElem?_cons_zero, List.getElem?_cons_succ] at c0 c1 c2 c3 c4 c5 c6 k0 k1 k2 k3 k4 k5 k6
  have hne : g ≠ g + 1 := by omega
  have hne2 : g + 1 ≠ g := by omega
  go_wp2_with fail
  refine (record_F _ _ _ _ HFW.out (by show cell.size ≤ 4096; omega) (by show row.length ≤ 1000000; omega) (by show dn.length ≤ 1000000; omega) HE.out).mono ?_
  rintro ev w1 ⟨v1, rfl, hv1, hb1_⟩
  generalize hR : recordR ⟨dn, row, cell, 0, bg, err, pl⟩ = R1 at hv1
  have HR1 := Lib.hid hR
  clear hR
  have HV := Lib.hid hv1
  have HWs := Lib.hid (blk_lt HO.out.res)
  have HO1 := Lib.hid (call_keep HO.out hb1_)
  clear c0 f0 k0 l0 c1 f1 k1 l1 c2 f2 k2 l2 c3 f3 k3 l3 c4 f4 k4 l4 c5 f5 k5 l5 c6 f6 k6 l6
  clear HO hb1_ HFW
  have HO := HO1
  clear HO1
  obtain ⟨AA, cA, BB, cB, hv1e, hx⟩ := hv1
  clear hx
  subst hv1e
  have c0 := blk_cell HO.out.rd 0
  have f0 := blk_frozen HO.out.rd 0
  have k0 := blk_cell HO.out.res 0
  have l0 := blk_frozen HO.out.res 0
  have c1 := blk_cell HO.out.rd 1
  have f1 := blk_frozen HO.out.rd 1
  have k1 := blk_cell HO.out.res 1
  have l1 := blk_frozen HO.out.res 1
  have c2 := blk_cell HO.out.rd 2
  have f2 := blk_frozen HO.out.rd 2
  have k2 := blk_cell HO.out.res 2
  have l2 := blk_frozen HO.out.res 2
  have c3 := blk_cell HO.out.rd 3
  have f3 := blk_frozen HO.out.rd 3
  have k3 := blk_cell HO.out.res 3
  have l3 := blk_frozen HO.out.res 3
  have c4 := blk_cell HO.out.rd 4
  have f4 := blk_frozen HO.out.rd 4
  have k4 := blk_cell HO.out.res 4
  have l4 := blk_frozen HO.out.res 4
  have c5 := blk_cell HO.out.rd 5
  have f5 := blk_frozen HO.out.rd 5
  have k5 := blk_cell HO.out.res 5
  have l5 := blk_frozen HO.out.res 5
  have c6 := blk_cell HO.out.rd 6
  have f6 := blk_frozen HO.out.rd 6
  have k6 := blk_cell HO.out.res 6
  have l6 := blk_frozen HO.out.res 6
  simp only [List.getElem?_toArray, List.getElem?_cons_zero, List.getElem?_cons_succ] at c0 c1 c2 c3 c4 c5 c6 k0 k1 k2 k3 k4 k5 k6
  have hne_ : g ≠ g + 1 := by omega
  have hne2_ : g + 1 ≠ g := by omega
  go_upto_region 18 with fail
  have HV2 := Lib.hid (show RdF (((((((w1.setCell ⟨g, 0, none⟩ (.slice AA R1.done.length cA)).setCell ⟨g, 1, none⟩ (.slice BB R1.row.length cB)).setCell ⟨g, 2, none⟩ (.string R1.cell)).setCell ⟨g, 3, none⟩ (.int .i64 R1.st)).setCell ⟨g, 4, none⟩ (.int .i64 R1.bg)).setCell ⟨g, 5, none⟩ (.int .i64 R1.err)).setCell ⟨g, 6, none⟩ (.int .i64 R1.pl)) _ R1 _ from seven_far HV.out (fun k hk => (by have h1 := HG.out; have h2 := HWs.out; rcases hk with ⟨_, hk⟩ | hk <;> omega)) _ _ _ _ _ _ _)
  have HO2 := Lib.hid (show OneAt w (((((((w1.setCell ⟨g, 0, none⟩ (.slice AA R1.done.length cA)).setCell ⟨g, 1, none⟩ (.slice BB R1.row.length cB)).setCell ⟨g, 2, none⟩ (.string R1.cell)).setCell ⟨g, 3, none⟩ (.int .i64 R1.st)).setCell ⟨g, 4, none⟩ (.int .i64 R1.bg)).setCell ⟨g, 5, none⟩ (.int .i64 R1.err)).setCell ⟨g, 6, none⟩ (.int .i64 R1.pl)) g #[.slice AA R1.done.length cA, .slice BB R1.row.length cB, .string R1.cell, .int .i64 R1.st, .int .i64 R1.bg, .int .i64 R1.err, .int .i64 R1.pl] from ⟨HO.out.eg, seven _ _ _ _ _ _ _ _ _ _ _ _ _ _ _ _ HO.out.rd, seven_other HO.out.res hne2 _ _ _ _ _ _ _, seven_below HO.out.bel (by rw [HO.out.eg]; exact Nat.le_refl _) _ _ _ _ _ _ _⟩)
  clear c0 f0 k0 l0 c1 f1 k1 l1 c2 f2 k2 l2 c3 f3 k3 l3 c4 f4 k4 l4 c5 f5 k5 l5 c6 f6 k6 l6
  clear HO HV
  have HO := HO2
  have HV := HV2
  clear HO2 HV2
  generalize (((((((w1.setCell ⟨g, 0, none⟩ (.slice AA R1.done.length cA)).setCell ⟨g, 1, none⟩ (.slice BB R1.row.length cB)).setCell ⟨g, 2, none⟩ (.string R1.cell)).setCell ⟨g, 3, none⟩ (.int .i64 R1.st)).setCell ⟨g, 4, none⟩ (.int .i64 R1.bg)).setCell ⟨g, 5, none⟩ (.int .i64 R1.err)).setCell ⟨g, 6, none⟩ (.int .i64 R1.pl)) = w2 at HO HV ⊢
  have c0 := blk_cell HO.out.rd 0
  have f0 := blk_frozen HO.out.rd 0
  have k0 := blk_cell HO.out.res 0
  have l0 := blk_frozen HO.out.res 0
  have c1 := blk_cell HO.out.rd 1
  have f1 := blk_frozen HO.out.rd 1
  have k1 := blk_cell HO.out.res 1
  have l1 := blk_frozen HO.out.res 1
  have c2 := blk_cell HO.out.rd 2
  have f2 := blk_frozen HO.out.rd 2
  have k2 := blk_cell HO.out.res 2
  have l2 := blk_frozen HO.out.res 2
  have c3 := blk_cell HO.out.rd 3
  have f3 := blk_frozen HO.out.rd 3
  have k3 := blk_cell HO.out.res 3
  have l3 := blk_frozen HO.out.res 3
  have c4 := blk_cell HO.out.rd 4
  have f4 := blk_frozen HO.out.rd 4
  have k4 := blk_cell HO.out.res 4
  have l4 := blk_frozen HO.out.res 4
  have c5 := blk_cell HO.out.rd 5
  have f5 := blk_frozen HO.out.rd 5
  have k5 := blk_cell HO.out.res 5
  have l5 := blk_frozen HO.out.res 5
  have c6 := blk_cell HO.out.rd 6
  have f6 := blk_frozen HO.out.rd 6
  have k6 := blk_cell HO.out.res 6
  have l6 := blk_frozen HO.out.res 6
  simp only [List.getElem?_toArray, List.getElem?_cons_zero, List.getElem?_cons_succ] at c0 c1 c2 c3 c4 c5 c6 k0 k1 k2 k3 k4 k5 k6
  have hne__ : g ≠ g + 1 := by omega
  have hne2__ : g + 1 ≠ g := by omega
  go_wp2
  have eg := HG.out
  have eW := HWs.out
  have N1 : ∀ k, ((P k ∧ k < w.heap.size) ∨ W.heap.size ≤ k) → k ≠ g := fun k hk => by rcases hk with ⟨_, hk⟩ | hk <;> omega
  have N2 : ∀ k, ((P k ∧ k < w.heap.size) ∨ W.heap.size ≤ k) → k ≠ g + 1 := fun k hk => by rcases hk with ⟨_, hk⟩ | hk <;> omega
  have N3 : ∀ k, ((P k ∧ k < w.heap.size) ∨ W.heap.size ≤ k) → (P k ∨ w.heap.size ≤ k) := fun k hk => hk.elim (fun h => Or.inl h.1) (fun h => Or.inr (by omega))
  have P1 := other4 HO.out.res hne2 (.int .i64 ((p : Int) + nb))
  have P2 : Below w.heap.size w (w2.setCell ⟨g, 4, none⟩ (.int .i64 ((p : Int) + nb))) := below_set HO.out.bel (by rw [HO.out.eg]; exact Nat.le_refl _)
  have P3 := (HV.out.bg ((p : Int) + nb)).far (p := ⟨g, 4, none⟩) N1 (.int .i64 ((p : Int) + nb))
  have e2 : w.heap.size ≤ g + 1 := by omega
  have eR := HR1.out
  clear HO HV HG HWs eg eW N1 c0 f0 k0 l0 c1 f1 k1 l1 c2 f2 k2 l2 c3 f3 k3 l3 c4 f4 k4 l4 c5 f5 k5 l5 c6 f6 k6 l6
  generalize w2.setCell ⟨g, 4, none⟩ (.int .i64 ((p : Int) + nb)) = w3 at P1 P2 P3 ⊢
  refine bodyPost_ret (results_ct (fn := Try.f63) (p := 8) (u := 9) (ty := 82) rfl _ _ (g + 1) 82 _ (0, 0) _ (by rfl) (by exact seven _ _ _ _ _ _ _ _ _ _ _ _ _ _ _ _ P1) Try.underlying82 rfl (by kernel_rfl)) rfl ?_
  refine ⟨_, rfl, ?_, seven_below P2 e2 _ _ _ _ _ _ _⟩
  rw [eR]
  exact (seven_far P3 N2 _ _ _ _ _ _ _).mono N3
set_option maxHeartbeats 4000000 in
set_option maxRecDepth 100000 in
theorem one_break1 (s : ByteArray) (p : Nat) (d : Int) (v : Value) (dn : List (List ByteArray)) (row : List ByteArray) (cell : ByteArray) (bg err pl : Int) (w : World) (hp : p < s.size) (hs : s.size ≤ 3000) (P : Nat → Prop) (hr : RdF w v ⟨dn, row, cell, 1, bg, err, pl⟩ P) (hd : bt s p ≠ d) (hn0 : 0 < breakR ((toBs s).drop p)) (hc : cell.size ≤ 3000) (hl : row.length ≤ 10000) (hdn : dn.length ≤ 10000) (he : err = 0) :
    Calls Try.prog 63 #[.string s, .int .i64 p, .int .u8 d, v] w fun ev w' => ∃ v', ev = .returned (.tuple #[v', .int .i64 ((breakR ((toBs s).drop p) : Nat) : Int)]) ∧ RdF w' v' { recordR ⟨dn, row, cell, 1, bg, err, pl⟩ with bg := (p : Int) + ((breakR ((toBs s).drop p) : Nat) : Int) } (fun k => P k ∨ w.heap.size ≤ k) ∧ Below w.heap.size w w' := by
  have HE := Lib.hid (show (⟨dn, row, cell, 1, bg, err, pl⟩ : Rd).err = 0 from he)
  clear he
  obtain ⟨nb, hnb⟩ : ∃ nb : Int, nb = ((breakR ((toBs s).drop p) : Nat) : Int) := ⟨_, rfl⟩
  have hle := breakR_le ((toBs s).drop p)
  have hnb0 : 0 < nb := by omega
  have hnb2 : decide (0 < nb) = true := decide_eq_true hnb0
  have hbn : wrap64 ((p : Int) + nb) = (p : Int) + nb := by rw [hnb, wrap_nat p _ (by omega)]; rfl
  clear hnb0 hle hn0
  rw [← hnb]
  have hbd : (bt s p == d) = false := beq_eq_false_iff_ne.2 hd
  clear hd
  have HF := Lib.hid hr.bound
  obtain ⟨A, c, B, e, hv, hx⟩ := hr
  clear hx
  dsimp only at hv
  subst hv
  have hp0 : (0 : Int) ≤ p := by omega
  have hp1 : (p : Int) < s.size := by omega
  rw [bt_at s p hp] at *
  have HBr := Lib.hid (show tartanref02_Break.f 1 s p = some nb by rw [ref02_Break_at s p 0 hp (by omega), hnb])
  clear hnb
  go_enter Try.func63, Try.ntmps63
  go_wp2_with fail
  refine (tartanref02_Break.calls 1 s p _ _ HBr.out).mono ?_
  rintro ev w' ⟨rfl, ⟨nd, rfl⟩⟩
  have HO := Lib.hid (oneAt w #[Value.slice A dn.length c, Value.slice B row.length e, Value.string cell, Value.int IntKind.i64 1, Value.int IntKind.i64 bg, Value.int IntKind.i64 err, Value.int IntKind.i64 pl] nd)
  generalize hg : w.heap.size = g at HO ⊢
  have HG := Lib.hid hg
  clear hg
  generalize (((w.alloc (Obj.cells #[Value.slice A dn.length c, Value.slice B row.length e, Value.string cell, Value.int IntKind.i64 1, Value.int IntKind.i64 bg, Value.int IntKind.i64 err, Value.int IntKind.i64 pl] 82)).alloc (Obj.cells #[Value.slice none 0 0, Value.slice none 0 0, Value.string { data := #[] }, Value.int IntKind.i64 0, Value.int IntKind.i64 0, Value.int IntKind.i64 0, Value.int IntKind.i64 0] 82)).drewN nd) = W at HO ⊢
  have HFW := Lib.hid (HF.out.below HO.out.bel)
  clear HF
  have c0 := blk_cell HO.out.rd 0
  have f0 := blk_frozen HO.out.rd 0
  have k0 := blk_cell HO.out.res 0
  have l0 := blk_frozen HO.out.res 0
  have c1 := blk_cell HO.out.rd 1
  have f1 := blk_frozen HO.out.rd 1
  have k1 := blk_cell HO.out.res 1
  have l1 := blk_frozen HO.out.res 1
  have c2 := blk_cell HO.out.rd 2
  have f2 := blk_frozen HO.out.rd 2
  have k2 := blk_cell HO.out.res 2
  have l2 := blk_frozen HO.out.res 2
  have c3 := blk_cell HO.out.rd 3
  have f3 := blk_frozen HO.out.rd 3
  have k3 := blk_cell HO.out.res 3
  have l3 := blk_frozen HO.out.res 3
  have c4 := blk_cell HO.out.rd 4
  have f4 := blk_frozen HO.out.rd 4
  have k4 := blk_cell HO.out.res 4
  have l4 := blk_frozen HO.out.res 4
  have c5 := blk_cell HO.out.rd 5
  have f5 := blk_frozen HO.out.rd 5
  have k5 := blk_cell HO.out.res 5
  have l5 := blk_frozen HO.out.res 5
  have c6 := blk_cell HO.out.rd 6
  have f6 := blk_frozen HO.out.rd 6
  have k6 := blk_cell HO.out.res 6
  have l6 := blk_frozen HO.out.res 6
  simp only [List.getElem?_toArray, List.getElem?_cons_zero, List.getElem?_cons_succ] at c0 c1 c2 c3 c4 c5 c6 k0 k1 k2 k3 k4 k5 k6
  have hne : g ≠ g + 1 := by omega
  have hne2 : g + 1 ≠ g := by omega
  go_wp2_with fail
  refine (record_F _ _ _ _ HFW.out (by show cell.size ≤ 4096; omega) (by show row.length ≤ 1000000; omega) (by show dn.length ≤ 1000000; omega) HE.out).mono ?_
  rintro ev w1 ⟨v1, rfl, hv1, hb1_⟩
  generalize hR : recordR ⟨dn, row, cell, 1, bg, err, pl⟩ = R1 at hv1
  have HR1 := Lib.hid hR
  clear hR
  have HV := Lib.hid hv1
  have HWs := Lib.hid (blk_lt HO.out.res)
  have HO1 := Lib.hid (call_keep HO.out hb1_)
  clear c0 f0 k0 l0 c1 f1 k1 l1 c2 f2 k2 l2 c3 f3 k3 l3 c4 f4 k4 l4 c5 f5 k5 l5 c6 f6 k6 l6
  clear HO hb1_ HFW
  have HO := HO1
  clear HO1
  obtain ⟨AA, cA, BB, cB, hv1e, hx⟩ := hv1
  clear hx
  subst hv1e
  have c0 := blk_cell HO.out.rd 0
  have f0 := blk_frozen HO.out.rd 0
  have k0 := blk_cell HO.out.res 0
  have l0 := blk_frozen HO.out.res 0
  have c1 := blk_cell HO.out.rd 1
  have f1 := blk_frozen HO.out.rd 1
  have k1 := blk_cell HO.out.res 1
  have l1 := blk_frozen HO.out.res 1
  have c2 := blk_cell HO.out.rd 2
  have f2 := blk_frozen HO.out.rd 2
  have k2 := blk_cell HO.out.res 2
  have l2 := blk_frozen HO.out.res 2
  have c3 := blk_cell HO.out.rd 3
  have f3 := blk_frozen HO.out.rd 3
  have k3 := blk_cell HO.out.res 3
  have l3 := blk_frozen HO.out.res 3
  have c4 := blk_cell HO.out.rd 4
  have f4 := blk_frozen HO.out.rd 4
  have k4 := blk_cell HO.out.res 4
  have l4 := blk_frozen HO.out.res 4
  have c5 := blk_cell HO.out.rd 5
  have f5 := blk_frozen HO.out.rd 5
  have k5 := blk_cell HO.out.res 5
  have l5 := blk_frozen HO.out.res 5
  have c6 := blk_cell HO.out.rd 6
  have f6 := blk_frozen HO.out.rd 6
  have k6 := blk_cell HO.out.res 6
  have l6 := blk_frozen HO.out.res 6
  simp only [List.getElem?_toArray, List.getElem?_cons_zero, List.getElem?_cons_succ] at c0 c1 c2 c3 c4 c5 c6 k0 k1 k2 k3 k4 k5 k6
  have hne_ : g ≠ g + 1 := by omega
  have hne2_ : g + 1 ≠ g := by omega
  go_upto_region 18 with fail
  have HV2 := Lib.hid (show RdF (((((((w1.setCell ⟨g, 0, none⟩ (.slice AA R1.done.length cA)).setCell ⟨g, 1, none⟩ (.slice BB R1.row.length cB)).setCell ⟨g, 2, none⟩ (.string R1.cell)).setCell ⟨g, 3, none⟩ (.int .i64 R1.st)).setCell ⟨g, 4, none⟩ (.int .i64 R1.bg)).setCell ⟨g, 5, none⟩ (.int .i64 R1.err)).setCell ⟨g, 6, none⟩ (.int .i64 R1.pl)) _ R1 _ from seven_far HV.out (fun k hk => (by have h1 := HG.out; have h2 := HWs.out; rcases hk with ⟨_, hk⟩ | hk <;> omega)) _ _ _ _ _ _ _)
  have HO2 := Lib.hid (show OneAt w (((((((w1.setCell ⟨g, 0, none⟩ (.slice AA R1.done.length cA)).setCell ⟨g, 1, none⟩ (.slice BB R1.row.length cB)).setCell ⟨g, 2, none⟩ (.string R1.cell)).setCell ⟨g, 3, none⟩ (.int .i64 R1.st)).setCell ⟨g, 4, none⟩ (.int .i64 R1.bg)).setCell ⟨g, 5, none⟩ (.int .i64 R1.err)).setCell ⟨g, 6, none⟩ (.int .i64 R1.pl)) g #[.slice AA R1.done.length cA, .slice BB R1.row.length cB, .string R1.cell, .int .i64 R1.st, .int .i64 R1.bg, .int .i64 R1.err, .int .i64 R1.pl] from ⟨HO.out.eg, seven _ _ _ _ _ _ _ _ _ _ _ _ _ _ _ _ HO.out.rd, seven_other HO.out.res hne2 _ _ _ _ _ _ _, seven_below HO.out.bel (by rw [HO.out.eg]; exact Nat.le_refl _) _ _ _ _ _ _ _⟩)
  clear c0 f0 k0 l0 c1 f1 k1 l1 c2 f2 k2 l2 c3 f3 k3 l3 c4 f4 k4 l4 c5 f5 k5 l5 c6 f6 k6 l6
  clear HO HV
  have HO := HO2
  have HV := HV2
  clear HO2 HV2
  generalize (((((((w1.setCell ⟨g, 0, none⟩ (.slice AA R1.done.length cA)).setCell ⟨g, 1, none⟩ (.slice BB R1.row.length cB)).setCell ⟨g, 2, none⟩ (.string R1.cell)).setCell ⟨g, 3, none⟩ (.int .i64 R1.st)).setCell ⟨g, 4, none⟩ (.int .i64 R1.bg)).setCell ⟨g, 5, none⟩ (.int .i64 R1.err)).setCell ⟨g, 6, none⟩ (.int .i64 R1.pl)) = w2 at HO HV ⊢
  have c0 := blk_cell HO.out.rd 0
  have f0 := blk_frozen HO.out.rd 0
  have k0 := blk_cell HO.out.res 0
  have l0 := blk_frozen HO.out.res 0
  have c1 := blk_cell HO.out.rd 1
  have f1 := blk_frozen HO.out.rd 1
  have k1 := blk_cell HO.out.res 1
  have l1 := blk_frozen HO.out.res 1
  have c2 := blk_cell HO.out.rd 2
  have f2 := blk_frozen HO.out.rd 2
  have k2 := blk_cell HO.out.res 2
  have l2 := blk_frozen HO.out.res 2
  have c3 := blk_cell HO.out.rd 3
  have f3 := blk_frozen HO.out.rd 3
  have k3 := blk_cell HO.out.res 3
  have l3 := blk_frozen HO.out.res 3
  have c4 := blk_cell HO.out.rd 4
  have f4 := blk_frozen HO.out.rd 4
  have k4 := blk_cell HO.out.res 4
  have l4 := blk_frozen HO.out.res 4
  have c5 := blk_cell HO.out.rd 5
  have f5 := blk_frozen HO.out.rd 5
  have k5 := blk_cell HO.out.res 5
  have l5 := blk_frozen HO.out.res 5
  have c6 := blk_cell HO.out.rd 6
  have f6 := blk_frozen HO.out.rd 6
  have k6 := blk_cell HO.out.res 6
  have l6 := blk_frozen HO.out.res 6
  simp only [List.getElem?_toArray, List.getElem?_cons_zero, List.getElem?_cons_succ] at c0 c1 c2 c3 c4 c5 c6 k0 k1 k2 k3 k4 k5 k6
  have hne__ : g ≠ g + 1 := by omega
  have hne2__ : g + 1 ≠ g := by omega
  go_wp2
  have eg := HG.out
  have eW := HWs.out
  have N1 : ∀ k, ((P k ∧ k < w.heap.size) ∨ W.heap.size ≤ k) → k ≠ g := fun k hk => by rcases hk with ⟨_, hk⟩ | hk <;> omega
  have N2 : ∀ k, ((P k ∧ k < w.heap.size) ∨ W.heap.size ≤ k) → k ≠ g + 1 := fun k hk => by rcases hk with ⟨_, hk⟩ | hk <;> omega
  have N3 : ∀ k, ((P k ∧ k < w.heap.size) ∨ W.heap.size ≤ k) → (P k ∨ w.heap.size ≤ k) := fun k hk => hk.elim (fun h => Or.inl h.1) (fun h => Or.inr (by omega))
  have P1 := other4 HO.out.res hne2 (.int .i64 ((p : Int) + nb))
  have P2 : Below w.heap.size w (w2.setCell ⟨g, 4, none⟩ (.int .i64 ((p : Int) + nb))) := below_set HO.out.bel (by rw [HO.out.eg]; exact Nat.le_refl _)
  have P3 := (HV.out.bg ((p : Int) + nb)).far (p := ⟨g, 4, none⟩) N1 (.int .i64 ((p : Int) + nb))
  have e2 : w.heap.size ≤ g + 1 := by omega
  have eR := HR1.out
  clear HO HV HG HWs eg eW N1 c0 f0 k0 l0 c1 f1 k1 l1 c2 f2 k2 l2 c3 f3 k3 l3 c4 f4 k4 l4 c5 f5 k5 l5 c6 f6 k6 l6
  generalize w2.setCell ⟨g, 4, none⟩ (.int .i64 ((p : Int) + nb)) = w3 at P1 P2 P3 ⊢
  refine bodyPost_ret (results_ct (fn := Try.f63) (p := 8) (u := 9) (ty := 82) rfl _ _ (g + 1) 82 _ (0, 0) _ (by rfl) (by exact seven _ _ _ _ _ _ _ _ _ _ _ _ _ _ _ _ P1) Try.underlying82 rfl (by kernel_rfl)) rfl ?_
  refine ⟨_, rfl, ?_, seven_below P2 e2 _ _ _ _ _ _ _⟩
  rw [eR]
  exact (seven_far P3 N2 _ _ _ _ _ _ _).mono N3
set_option maxHeartbeats 4000000 in
set_option maxRecDepth 100000 in
theorem one_break3 (s : ByteArray) (p : Nat) (d : Int) (v : Value) (dn : List (List ByteArray)) (row : List ByteArray) (cell : ByteArray) (bg err pl : Int) (w : World) (hp : p < s.size) (hs : s.size ≤ 3000) (P : Nat → Prop) (hr : RdF w v ⟨dn, row, cell, 3, bg, err, pl⟩ P) (hb : bt s p ≠ 34) (hd : bt s p ≠ d) (hn0 : 0 < breakR ((toBs s).drop p)) (hc : cell.size ≤ 3000) (hl : row.length ≤ 10000) (hdn : dn.length ≤ 10000) (he : err = 0) :
    Calls Try.prog 63 #[.string s, .int .i64 p, .int .u8 d, v] w fun ev w' => ∃ v', ev = .returned (.tuple #[v', .int .i64 ((breakR ((toBs s).drop p) : Nat) : Int)]) ∧ RdF w' v' { recordR ⟨dn, row, cell, 3, bg, err, pl⟩ with bg := (p : Int) + ((breakR ((toBs s).drop p) : Nat) : Int) } (fun k => P k ∨ w.heap.size ≤ k) ∧ Below w.heap.size w w' := by
  have HE := Lib.hid (show (⟨dn, row, cell, 3, bg, err, pl⟩ : Rd).err = 0 from he)
  clear he
  obtain ⟨nb, hnb⟩ : ∃ nb : Int, nb = ((breakR ((toBs s).drop p) : Nat) : Int) := ⟨_, rfl⟩
  have hle := breakR_le ((toBs s).drop p)
  have hnb0 : 0 < nb := by omega
  have hnb2 : decide (0 < nb) = true := decide_eq_true hnb0
  have hbn : wrap64 ((p : Int) + nb) = (p : Int) + nb := by rw [hnb, wrap_nat p _ (by omega)]; rfl
  clear hnb0 hle hn0
  rw [← hnb]
  have hbd : (bt s p == d) = false := beq_eq_false_iff_ne.2 hd
  clear hd
  have hb2 : (bt s p == 34) = false := beq_eq_false_iff_ne.2 hb
  clear hb
  have HF := Lib.hid hr.bound
  obtain ⟨A, c, B, e, hv, hx⟩ := hr
  clear hx
  dsimp only at hv
  subst hv
  have hp0 : (0 : Int) ≤ p := by omega
  have hp1 : (p : Int) < s.size := by omega
  rw [bt_at s p hp] at *
  have HBr := Lib.hid (show tartanref02_Break.f 1 s p = some nb by rw [ref02_Break_at s p 0 hp (by omega), hnb])
  clear hnb
  go_enter Try.func63, Try.ntmps63
  go_wp2_with fail
  refine (tartanref02_Break.calls 1 s p _ _ HBr.out).mono ?_
  rintro ev w' ⟨rfl, ⟨nd, rfl⟩⟩
  have HO := Lib.hid (oneAt w #[Value.slice A dn.length c, Value.slice B row.length e, Value.string cell, Value.int IntKind.i64 3, Value.int IntKind.i64 bg, Value.int IntKind.i64 err, Value.int IntKind.i64 pl] nd)
  generalize hg : w.heap.size = g at HO ⊢
  have HG := Lib.hid hg
  clear hg
  generalize (((w.alloc (Obj.cells #[Value.slice A dn.length c, Value.slice B row.length e, Value.string cell, Value.int IntKind.i64 3, Value.int IntKind.i64 bg, Value.int IntKind.i64 err, Value.int IntKind.i64 pl] 82)).alloc (Obj.cells #[Value.slice none 0 0, Value.slice none 0 0, Value.string { data := #[] }, Value.int IntKind.i64 0, Value.int IntKind.i64 0, Value.int IntKind.i64 0, Value.int IntKind.i64 0] 82)).drewN nd) = W at HO ⊢
  have HFW := Lib.hid (HF.out.below HO.out.bel)
  clear HF
  have c0 := blk_cell HO.out.rd 0
  have f0 := blk_frozen HO.out.rd 0
  have k0 := blk_cell HO.out.res 0
  have l0 := blk_frozen HO.out.res 0
  have c1 := blk_cell HO.out.rd 1
  have f1 := blk_frozen HO.out.rd 1
  have k1 := blk_cell HO.out.res 1
  have l1 := blk_frozen HO.out.res 1
  have c2 := blk_cell HO.out.rd 2
  have f2 := blk_frozen HO.out.rd 2
  have k2 := blk_cell HO.out.res 2
  have l2 := blk_frozen HO.out.res 2
  have c3 := blk_cell HO.out.rd 3
  have f3 := blk_frozen HO.out.rd 3
  have k3 := blk_cell HO.out.res 3
  have l3 := blk_frozen HO.out.res 3
  have c4 := blk_cell HO.out.rd 4
  have f4 := blk_frozen HO.out.rd 4
  have k4 := blk_cell HO.out.res 4
  have l4 := blk_frozen HO.out.res 4
  have c5 := blk_cell HO.out.rd 5
  have f5 := blk_frozen HO.out.rd 5
  have k5 := blk_cell HO.out.res 5
  have l5 := blk_frozen HO.out.res 5
  have c6 := blk_cell HO.out.rd 6
  have f6 := blk_frozen HO.out.rd 6
  have k6 := blk_cell HO.out.res 6
  have l6 := blk_frozen HO.out.res 6
  simp only [List.getElem?_toArray, List.getElem?_cons_zero, List.getElem?_cons_succ] at c0 c1 c2 c3 c4 c5 c6 k0 k1 k2 k3 k4 k5 k6
  have hne : g ≠ g + 1 := by omega
  have hne2 : g + 1 ≠ g := by omega
  go_wp2_with fail
  refine (record_F _ _ _ _ HFW.out (by show cell.size ≤ 4096; omega) (by show row.length ≤ 1000000; omega) (by show dn.length ≤ 1000000; omega) HE.out).mono ?_
  rintro ev w1 ⟨v1, rfl, hv1, hb1_⟩
  generalize hR : recordR ⟨dn, row, cell, 3, bg, err, pl⟩ = R1 at hv1
  have HR1 := Lib.hid hR
  clear hR
  have HV := Lib.hid hv1
  have HWs := Lib.hid (blk_lt HO.out.res)
  have HO1 := Lib.hid (call_keep HO.out hb1_)
  clear c0 f0 k0 l0 c1 f1 k1 l1 c2 f2 k2 l2 c3 f3 k3 l3 c4 f4 k4 l4 c5 f5 k5 l5 c6 f6 k6 l6
  clear HO hb1_ HFW
  have HO := HO1
  clear HO1
  obtain ⟨AA, cA, BB, cB, hv1e, hx⟩ := hv1
  clear hx
  subst hv1e
  have c0 := blk_cell HO.out.rd 0
  have f0 := blk_frozen HO.out.rd 0
  have k0 := blk_cell HO.out.res 0
  have l0 := blk_frozen HO.out.res 0
  have c1 := blk_cell HO.out.rd 1
  have f1 := blk_frozen HO.out.rd 1
  have k1 := blk_cell HO.out.res 1
  have l1 := blk_frozen HO.out.res 1
  have c2 := blk_cell HO.out.rd 2
  have f2 := blk_frozen HO.out.rd 2
  have k2 := blk_cell HO.out.res 2
  have l2 := blk_frozen HO.out.res 2
  have c3 := blk_cell HO.out.rd 3
  have f3 := blk_frozen HO.out.rd 3
  have k3 := blk_cell HO.out.res 3
  have l3 := blk_frozen HO.out.res 3
  have c4 := blk_cell HO.out.rd 4
  have f4 := blk_frozen HO.out.rd 4
  have k4 := blk_cell HO.out.res 4
  have l4 := blk_frozen HO.out.res 4
  have c5 := blk_cell HO.out.rd 5
  have f5 := blk_frozen HO.out.rd 5
  have k5 := blk_cell HO.out.res 5
  have l5 := blk_frozen HO.out.res 5
  have c6 := blk_cell HO.out.rd 6
  have f6 := blk_frozen HO.out.rd 6
  have k6 := blk_cell HO.out.res 6
  have l6 := blk_frozen HO.out.res 6
  simp only [List.getElem?_toArray, List.getElem?_cons_zero, List.getElem?_cons_succ] at c0 c1 c2 c3 c4 c5 c6 k0 k1 k2 k3 k4 k5 k6
  have hne_ : g ≠ g + 1 := by omega
  have hne2_ : g + 1 ≠ g := by omega
  go_upto_region 18 with fail
  have HV2 := Lib.hid (show RdF (((((((w1.setCell ⟨g, 0, none⟩ (.slice AA R1.done.length cA)).setCell ⟨g, 1, none⟩ (.slice BB R1.row.length cB)).setCell ⟨g, 2, none⟩ (.string R1.cell)).setCell ⟨g, 3, none⟩ (.int .i64 R1.st)).setCell ⟨g, 4, none⟩ (.int .i64 R1.bg)).setCell ⟨g, 5, none⟩ (.int .i64 R1.err)).setCell ⟨g, 6, none⟩ (.int .i64 R1.pl)) _ R1 _ from seven_far HV.out (fun k hk => (by have h1 := HG.out; have h2 := HWs.out; rcases hk with ⟨_, hk⟩ | hk <;> omega)) _ _ _ _ _ _ _)
  have HO2 := Lib.hid (show OneAt w (((((((w1.setCell ⟨g, 0, none⟩ (.slice AA R1.done.length cA)).setCell ⟨g, 1, none⟩ (.slice BB R1.row.length cB)).setCell ⟨g, 2, none⟩ (.string R1.cell)).setCell ⟨g, 3, none⟩ (.int .i64 R1.st)).setCell ⟨g, 4, none⟩ (.int .i64 R1.bg)).setCell ⟨g, 5, none⟩ (.int .i64 R1.err)).setCell ⟨g, 6, none⟩ (.int .i64 R1.pl)) g #[.slice AA R1.done.length cA, .slice BB R1.row.length cB, .string R1.cell, .int .i64 R1.st, .int .i64 R1.bg, .int .i64 R1.err, .int .i64 R1.pl] from ⟨HO.out.eg, seven _ _ _ _ _ _ _ _ _ _ _ _ _ _ _ _ HO.out.rd, seven_other HO.out.res hne2 _ _ _ _ _ _ _, seven_below HO.out.bel (by rw [HO.out.eg]; exact Nat.le_refl _) _ _ _ _ _ _ _⟩)
  clear c0 f0 k0 l0 c1 f1 k1 l1 c2 f2 k2 l2 c3 f3 k3 l3 c4 f4 k4 l4 c5 f5 k5 l5 c6 f6 k6 l6
  clear HO HV
  have HO := HO2
  have HV := HV2
  clear HO2 HV2
  generalize (((((((w1.setCell ⟨g, 0, none⟩ (.slice AA R1.done.length cA)).setCell ⟨g, 1, none⟩ (.slice BB R1.row.length cB)).setCell ⟨g, 2, none⟩ (.string R1.cell)).setCell ⟨g, 3, none⟩ (.int .i64 R1.st)).setCell ⟨g, 4, none⟩ (.int .i64 R1.bg)).setCell ⟨g, 5, none⟩ (.int .i64 R1.err)).setCell ⟨g, 6, none⟩ (.int .i64 R1.pl)) = w2 at HO HV ⊢
  have c0 := blk_cell HO.out.rd 0
  have f0 := blk_frozen HO.out.rd 0
  have k0 := blk_cell HO.out.res 0
  have l0 := blk_frozen HO.out.res 0
  have c1 := blk_cell HO.out.rd 1
  have f1 := blk_frozen HO.out.rd 1
  have k1 := blk_cell HO.out.res 1
  have l1 := blk_frozen HO.out.res 1
  have c2 := blk_cell HO.out.rd 2
  have f2 := blk_frozen HO.out.rd 2
  have k2 := blk_cell HO.out.res 2
  have l2 := blk_frozen HO.out.res 2
  have c3 := blk_cell HO.out.rd 3
  have f3 := blk_frozen HO.out.rd 3
  have k3 := blk_cell HO.out.res 3
  have l3 := blk_frozen HO.out.res 3
  have c4 := blk_cell HO.out.rd 4
  have f4 := blk_frozen HO.out.rd 4
  have k4 := blk_cell HO.out.res 4
  have l4 := blk_frozen HO.out.res 4
  have c5 := blk_cell HO.out.rd 5
  have f5 := blk_frozen HO.out.rd 5
  have k5 := blk_cell HO.out.res 5
  have l5 := blk_frozen HO.out.res 5
  have c6 := blk_cell HO.out.rd 6
  have f6 := blk_frozen HO.out.rd 6
  have k6 := blk_cell HO.out.res 6
  have l6 := blk_frozen HO.out.res 6
  simp only [List.getElem?_toArray, List.getElem?_cons_zero, List.getElem?_cons_succ] at c0 c1 c2 c3 c4 c5 c6 k0 k1 k2 k3 k4 k5 k6
  have hne__ : g ≠ g + 1 := by omega
  have hne2__ : g + 1 ≠ g := by omega
  go_wp2
  have eg := HG.out
  have eW := HWs.out
  have N1 : ∀ k, ((P k ∧ k < w.heap.size) ∨ W.heap.size ≤ k) → k ≠ g := fun k hk => by rcases hk with ⟨_, hk⟩ | hk <;> omega
  have N2 : ∀ k, ((P k ∧ k < w.heap.size) ∨ W.heap.size ≤ k) → k ≠ g + 1 := fun k hk => by rcases hk with ⟨_, hk⟩ | hk <;> omega
  have N3 : ∀ k, ((P k ∧ k < w.heap.size) ∨ W.heap.size ≤ k) → (P k ∨ w.heap.size ≤ k) := fun k hk => hk.elim (fun h => Or.inl h.1) (fun h => Or.inr (by omega))
  have P1 := other4 HO.out.res hne2 (.int .i64 ((p : Int) + nb))
  have P2 : Below w.heap.size w (w2.setCell ⟨g, 4, none⟩ (.int .i64 ((p : Int) + nb))) := below_set HO.out.bel (by rw [HO.out.eg]; exact Nat.le_refl _)
  have P3 := (HV.out.bg ((p : Int) + nb)).far (p := ⟨g, 4, none⟩) N1 (.int .i64 ((p : Int) + nb))
  have e2 : w.heap.size ≤ g + 1 := by omega
  have eR := HR1.out
  clear HO HV HG HWs eg eW N1 c0 f0 k0 l0 c1 f1 k1 l1 c2 f2 k2 l2 c3 f3 k3 l3 c4 f4 k4 l4 c5 f5 k5 l5 c6 f6 k6 l6
  generalize w2.setCell ⟨g, 4, none⟩ (.int .i64 ((p : Int) + nb)) = w3 at P1 P2 P3 ⊢
  refine bodyPost_ret (results_ct (fn := Try.f63) (p := 8) (u := 9) (ty := 82) rfl _ _ (g + 1) 82 _ (0, 0) _ (by rfl) (by exact seven _ _ _ _ _ _ _ _ _ _ _ _ _ _ _ _ P1) Try.underlying82 rfl (by kernel_rfl)) rfl ?_
  refine ⟨_, rfl, ?_, seven_below P2 e2 _ _ _ _ _ _ _⟩
  rw [eR]
  exact (seven_far P3 N2 _ _ _ _ _ _ _).mono N3
end Go.Proofs.Ytggodagdfldndaa

namespace Go.Proofs.Ytggodagdfldndaa
open Go.RowKit Go.Proofs.YtggodagdfldndaaW.PrintWords
def oneR (s : ByteArray) (p : Nat) (d : Int) (r : Rd) : Rd × Nat :=
  if r.st = 2 then (if bt s p = 34 then ({ r with st := 3 }, 1) else ({ r with cell := r.cell ++ s.extract p (p + 1) }, 1))
  else if r.st = 3 ∧ bt s p = 34 then ({ r with cell := r.cell ++ (⟨#[34]⟩ : ByteArray), st := 2 }, 1)
  else if bt s p = d then ({ closedR r with bg := (p : Int) + 1 }, 1)
  else if 0 < breakR ((toBs s).drop p) then ({ recordR r with bg := (p : Int) + ((breakR ((toBs s).drop p) : Nat) : Int) }, breakR ((toBs s).drop p))
  else if r.st = 3 then (badR p 5, 1)
  else if bt s p = 34 ∧ r.st = 0 then ({ r with st := 2 }, 1)
  else if bt s p = 34 then (badR p 3, 1)
  else if bt s p = 13 then (badR p 6, 1)
  else ({ r with cell := r.cell ++ s.extract p (p + 1), st := 1 }, 1)
theorem one_walk (s : ByteArray) (p : Nat) (d : Int) (v : Value) (r : Rd) (w : World) (hp : p < s.size) (hs : s.size ≤ 3000) (P : Nat → Prop) (hr : RdF w v r P) (hst : r.st = 0 ∨ r.st = 1 ∨ r.st = 2 ∨ r.st = 3)
    (hc : r.cell.size ≤ 3000) (hl : r.row.length ≤ 10000) (hdn : r.done.length ≤ 10000) (he : r.err = 0) :
    Calls Try.prog 63 #[.string s, .int .i64 p, .int .u8 d, v] w fun ev w' => ∃ v', ev = .returned (.tuple #[v', .int .i64 (oneR s p d r).2]) ∧ RdF w' v' (oneR s p d r).1 (fun k => P k ∨ w.heap.size ≤ k) ∧ Below w.heap.size w w' := by
  obtain ⟨dn, row, cell, st, bg, err, pl⟩ := r
  dsimp only at hst hc hl hdn he
  have hr0 := hr
  unfold oneR
  dsimp only
  by_cases h2 : st = 2
  · subst h2
    obtain ⟨A, c, B, e, rfl, h1, h2, h3, h4⟩ := hr
    dsimp only at h1 h2 h3 h4 ⊢
    rw [if_pos rfl]
    by_cases hb : bt s p = 34
    · rw [if_pos hb]
      refine (one_2q s p d A c B e _ _ cell bg err pl w hp hs hb).mono ?_
      rintro ev w' ⟨rfl, hb⟩
      exact ⟨_, rfl, ⟨A, c, B, e, rfl, h1, h2, Kd.F_mono (Kd.F_below h3 hb) (fun _ h => Or.inl h), Kd.F_mono (Kd.F_below h4 hb) (fun _ h => Or.inl h)⟩, hb⟩
    · rw [if_neg hb]
      refine (one_2 s p d A c B e _ _ cell bg err pl w hp hs hb hc).mono ?_
      rintro ev w' ⟨rfl, hb⟩
      exact ⟨_, rfl, ⟨A, c, B, e, rfl, h1, h2, Kd.F_mono (Kd.F_below h3 hb) (fun _ h => Or.inl h), Kd.F_mono (Kd.F_below h4 hb) (fun _ h => Or.inl h)⟩, hb⟩
  · rw [if_neg h2]
    by_cases h3q : st = 3 ∧ bt s p = 34
    · obtain ⟨rfl, hb⟩ := h3q
      rw [if_pos ⟨rfl, hb⟩]
      obtain ⟨A, c, B, e, rfl, h1, h2, h3, h4⟩ := hr
      dsimp only at h1 h2 h3 h4 ⊢
      refine (one_3q s p d A c B e _ _ cell bg err pl w hp hs hb hc).mono ?_
      rintro ev w' ⟨rfl, hb⟩
      exact ⟨_, rfl, ⟨A, c, B, e, rfl, h1, h2, Kd.F_mono (Kd.F_below h3 hb) (fun _ h => Or.inl h), Kd.F_mono (Kd.F_below h4 hb) (fun _ h => Or.inl h)⟩, hb⟩
    · rw [if_neg h3q]
      have h013 : st = 0 ∨ st = 1 ∨ st = 3 := by omega
      by_cases hd : bt s p = d
      · rw [if_pos hd]
        rcases h013 with rfl | rfl | rfl
        · exact one_delim0 s p d v dn row cell bg err pl w hp hs P hr hd hc hl
        · exact one_delim1 s p d v dn row cell bg err pl w hp hs P hr hd hc hl
        · exact one_delim3 s p d v dn row cell bg err pl w hp hs P hr (fun hb => h3q ⟨rfl, hb⟩) hd hc hl
      · rw [if_neg hd]
        by_cases hn : 0 < breakR ((toBs s).drop p)
        · rw [if_pos hn]
          rcases h013 with rfl | rfl | rfl
          · exact one_break0 s p d v dn row cell bg err pl w hp hs P hr hd hn hc hl hdn he
          · exact one_break1 s p d v dn row cell bg err pl w hp hs P hr hd hn hc hl hdn he
          · exact one_break3 s p d v dn row cell bg err pl w hp hs P hr (fun hb => h3q ⟨rfl, hb⟩) hd hn hc hl hdn he
        · rw [if_neg hn]
          have hn0 : breakR ((toBs s).drop p) = 0 := by omega
          by_cases h3 : st = 3
          · subst h3
            rw [if_pos rfl]
            exact one_bad3 s p d v dn row cell bg err pl w hp hs P hr (fun hb => h3q ⟨rfl, hb⟩) hd hn0
          · rw [if_neg h3]
            have h01 : st = 0 ∨ st = 1 := by omega
            by_cases hq : bt s p = 34 ∧ st = 0
            · obtain ⟨hb, rfl⟩ := hq
              rw [if_pos ⟨hb, rfl⟩]
              obtain ⟨A, c, B, e, rfl, h1, h2, h3, h4⟩ := hr
              dsimp only at h1 h2 h3 h4 ⊢
              refine (one_0q s p d A c B e _ _ cell bg err pl w hp hs hb hd hn0).mono ?_
              rintro ev w' ⟨rfl, hb⟩
              exact ⟨_, rfl, ⟨A, c, B, e, rfl, h1, h2, Kd.F_mono (Kd.F_below h3 hb) (fun _ h => Or.inl h), Kd.F_mono (Kd.F_below h4 hb) (fun _ h => Or.inl h)⟩, hb⟩
            · rw [if_neg hq]
              by_cases hb : bt s p = 34
              · rw [if_pos hb]
                have h1 : st = 1 := by
                  rcases h01 with h | h
                  · exact absurd ⟨hb, h⟩ hq
                  · exact h
                subst h1
                exact one_badq s p d v dn row cell bg err pl w hp hs P hr hb hd hn0
              · rw [if_neg hb]
                by_cases h13 : bt s p = 13
                · rw [if_pos h13]
                  rcases h01 with rfl | rfl
                  · exact one_badr0 s p d v dn row cell bg err pl w hp hs P hr hb hd hn0 h13
                  · exact one_badr1 s p d v dn row cell bg err pl w hp hs P hr hb hd hn0 h13
                · rw [if_neg h13]
                  rcases h01 with rfl | rfl
                  all_goals
                    obtain ⟨A, c, B, e, rfl, h1, h2, h3, h4⟩ := hr
                    dsimp only at h1 h2 h3 h4 ⊢
                  · refine (one_plain0 s p d A c B e _ _ cell bg err pl w hp hs hb hd hn0 h13 hc).mono ?_
                    rintro ev w' ⟨rfl, hb⟩
                    exact ⟨_, rfl, ⟨A, c, B, e, rfl, h1, h2, Kd.F_mono (Kd.F_below h3 hb) (fun _ h => Or.inl h), Kd.F_mono (Kd.F_below h4 hb) (fun _ h => Or.inl h)⟩, hb⟩
                  · refine (one_plain1 s p d A c B e _ _ cell bg err pl w hp hs hb hd hn0 h13 hc).mono ?_
                    rintro ev w' ⟨rfl, hb⟩
                    exact ⟨_, rfl, ⟨A, c, B, e, rfl, h1, h2, Kd.F_mono (Kd.F_below h3 hb) (fun _ h => Or.inl h), Kd.F_mono (Kd.F_below h4 hb) (fun _ h => Or.inl h)⟩, hb⟩
end Go.Proofs.Ytggodagdfldndaa
