/- Walks of Go functions of this seat against plain Lean functions, written by a program of this session (the kit's print, with hand-proved contracts for what it does not take). Lean checks them. -/
import Derived.Test.YtggodagdfldndaaJCsvFields4
import Derived.Test.YtggodagdfldndaaProg
import Derived.Below
import Derived.Deep.Draws
import Derived.Deep.AppendLies
import Derived.Maps.AppendAt
import Derived.OwnWalk
import Derived.Laws.BytesArg
import Derived.Laws.MakeOwn
import Derived.Laws.OwnMore
import Derived.Deep.OwnRows
import Derived.Tactics
import Derived.Lib.ConvBytes
import Derived.Laws.Slices
import Derived.WalkKit
import Derived.KernelRfl
import Derived.RowKit3
import Derived.Deep.LoopGhost
import Derived.Deep.QuietTactic
import Derived.BigQuiet
import Derived.WideLaws
import Derived.Deep.DeepCutAuto
import Derived.Deep.CutBlock
import Derived.Deep.RegionHeld3
import Derived.Laws.Rows
import Derived.Lib.AppendStr
import Derived.ArgAppend
import Derived.Laws.IdiomCopy
import Derived.OrdersHeld
import Derived.Laws.BitsLemmas
import Derived.RowKit
import Derived.Test.YtggodagdfldndaaJCsvFields3
import Derived.Test.YtggodagdfldndaaJCsvFields2
import Derived.Test.YtggodagdfldndaaJCsvFields1
import Derived.Test.YtggodagdfldndaaWWords
import Derived.Test.YtggodagdfldndaaWLast
import Derived.Test.YtggodagdfldndaaWTab
import Derived.Test.YtggodagdfldndaaWFour
import Derived.Test.YtggodagdfldndaaWQPut
import Derived.Test.YtggodagdfldndaaWApart
import Derived.Test.YtggodagdfldndaaWArr
import Derived.Test.YtggodagdfldndaaWZeros
import Derived.Test.YtggodagdfldndaaWFoot
import Derived.Test.YtggodagdfldndaaWKept
import Derived.Test.YtggodagdfldndaaWShare
import Derived.Test.YtggodagdfldndaaWN
import Derived.Test.YtggodagdfldndaaWFootNe
import Derived.Test.YtggodagdfldndaaWAt
import Derived.Test.YtggodagdfldndaaWEqStruct
import Derived.Test.YtggodagdfldndaaWRepsOne
import Derived.Test.YtggodagdfldndaaWInv
import Derived.Test.YtggodagdfldndaaWInvWords
import Derived.Test.YtggodagdfldndaaWGuard
import Derived.Test.YtggodagdfldndaaWNEv
import Derived.Test.YtggodagdfldndaaWMore
set_option linter.unusedVariables false
set_option linter.unusedSimpArgs false
/-! csv.Parse walked: a range over the iterator of fields. -/
namespace Go.Proofs.Ytggodagdfldndaa.Q.L
open Go.RowKit Go.Shelf Go.Proofs.YtggodagdfldndaaW.PrintWords Go.Proofs.YtggodagdfldndaaW.PrintLast Go.Proofs.YtggodagdfldndaaW.PrintMore Go.Proofs.Ytggodagdfldndaa.Q.L.Y
attribute [local go_sem] Oper.semAt_some
/-- csv.Parse, as a plain function. -/
def csv_Parse.f (a0 : ByteArray) (a1 : Int) : Option (List (List ByteArray) × Int × Int) := if a0.size ≤ 1048576 then some (parseF (toBs a0) a1) else none
set_option maxHeartbeats 1000000 in
/-- Three results that lie in cells of plain types. -/
theorem results_cells (W : World) (tmps : Array Value) (g1 g2 g3 : Nat) (v1 v2 v3 : Value) (h1 : tmps.getD 4 undef = .pointer (some ⟨g1, 0, none⟩)) (h2 : tmps.getD 5 undef = .pointer (some ⟨g2, 0, none⟩)) (h3 : tmps.getD 6 undef = .pointer (some ⟨g3, 0, none⟩))
    (c1 : W.cell? ⟨g1, 0, none⟩ = some v1) (c2 : W.cell? ⟨g2, 0, none⟩ = some v2) (c3 : W.cell? ⟨g3, 0, none⟩ = some v3) : (results Try.f40 tmps).run Try.prog W = .ok (.tuple #[v1, v2, v3]) W := by
  have a1 := Try.isAgg41
  have a2 := Try.isAgg3
  have a3 := Try.isAgg28
  rw [Array.getD_eq_getD_getElem?] at h1 h2 h3
  unfold results
  simp [Try.f40, asAddr, h1, h2, h3, loadVar, go_sem, c1, c2, c3, a1, a2, a3]
set_option maxHeartbeats 4000000 in
set_option maxRecDepth 100000 in
theorem parse_bad (s : ByteArray) (d : Int) (w : World) (hg : goodI d = false) :
    Calls Try.prog 40 #[.string s, .int .u8 d] w fun e w' => ∃ v0_ : Value, e = .returned (.tuple #[v0_, .int .i64 0, .int .i64 2]) ∧ Kd.S (Kd.slice 9 Kd.string) 38 w' w.heap.size (fun k_ => True) v0_ [] ∧ Below w.heap.size w w' := by
  have Hg := Lib.hid (show quote_Good.f d = some false by rw [quote_Good_f, hg])
  clear hg
  go_enter Try.func40, Try.ntmps40
  go_wp2_with fail
  refine (quote_Good.calls d false _ Hg.out).mono ?_
  rintro e w' ⟨rfl, ⟨nd, rfl⟩⟩
  go_wp2
  refine bodyPost_ret (results_cells _ _ w.heap.size (w.heap.size + 1) (w.heap.size + 1 + 1) (.slice none 0 0) (.int .i64 0) (.int .i64 2) rfl rfl rfl ?_ ?_ ?_) rfl ?_
  case refine_4 =>
    refine ⟨_, rfl, Kd.S_nil _ _ _ _ _, ?_⟩
    have h1 : Below w.heap.size w (((w.alloc (Obj.cells #[Value.slice none 0 0] 41)).alloc (Obj.cells #[Value.int IntKind.i64 0] 3)).alloc (Obj.cells #[Value.int IntKind.i64 0] 28)) := (((Below.refl _ w).alloc (Nat.le_refl _) _).alloc (by simp) _).alloc (by simp; omega) _
    have h2 := pw_below_drewN h1 nd
    exact ((h2.setCell (by simp) _).setCell (by simp) _).setCell (by simp; omega) _
  case refine_3 => exact World.cell?_setCell_same _ _ _ (u := .int .i64 0) (by simp [go_sem])
  all_goals (simp [go_sem])
  · exact World.cell?_setCell_same _ _ _ (u := .slice none 0 0) (by simp [go_sem])
/-- What has been parsed so far: pre's fields; the results' cells are as they were made. -/
def PInv (g0 : Nat) (s : ByteArray) (d : Int) (w : World) (pre : List It) (W : World) : Prop :=
  (∃ v, Boxed W (g0 + 1 + 1 + 1) 41 v ∧ Kd.S (Kd.slice 9 Kd.string) 38 W (g0 + 6) (fun _ => True) v (rowsOf pre)) ∧
  Boxed W g0 41 (.slice none 0 0) ∧ Boxed W (g0 + 1) 3 (.int .i64 0) ∧ Boxed W (g0 + 1 + 1) 28 (.int .i64 0) ∧
  Boxed W (g0 + 1 + 1 + 1 + 1) 9 (.string s) ∧ Boxed W (g0 + 1 + 1 + 1 + 1 + 1) 5 (.int .u8 d) ∧ (∀ i ∈ pre, i.e = 0) ∧ g0 + 6 ≤ W.heap.size ∧ Below g0 w W
/-- A field that is wrong has been met. -/
def PStop (g0 : Nat) (w : World) (c : Code) (pre : List It) (W : World) : Prop :=
  c = .ret ∧ ∃ pre' x, pre = pre' ++ [x] ∧ x.e ≠ 0 ∧ (∀ i ∈ pre', i.e = 0) ∧
  Boxed W g0 41 (.slice none 0 0) ∧ Boxed W (g0 + 1) 3 (.int .i64 x.pl) ∧ Boxed W (g0 + 1 + 1) 28 (.int .i64 x.e) ∧ Below g0 w W
theorem pInv_own (g0 B : Nat) (s : ByteArray) (d : Int) (w : World) (hB : g0 ≤ B) (hw : w.heap.size = g0) : OwnFrom B (PInv g0 s d w) := by
  intro pre W W' row h hg hr
  obtain ⟨⟨v, h1, h2⟩, h3, h4, h5, h6, h7, h8, h9, h10⟩ := h
  have hr2 : ∀ r, row = some r → ∃ o : Obj, W.heap[r]? = some o ∧ o.isCells = false := fun r e => (hr r e).2
  exact ⟨⟨v, boxedOwn h1 hg hr2, sGrown h2 hg hr2⟩, boxedOwn h3 hg hr2, boxedOwn h4 hg hr2, boxedOwn h5 hg hr2, boxedOwn h6 hg hr2, boxedOwn h7 hg hr2, h8, by have := hg.size; omega,
    (ownFrom_below (β := Unit) (n₀ := g0) (B := B) (w₀ := w) (by omega) hB) () W W' row h10 hg hr⟩
theorem pStop_own (g0 B : Nat) (w : World) (hB : g0 ≤ B) (hw : w.heap.size = g0) (c : Code) : OwnFrom B (PStop g0 w c) := by
  intro pre W W' row h hg hr
  obtain ⟨h0, pre', x, h1, h2, h3, h4, h5, h6, h7⟩ := h
  have hr2 : ∀ r, row = some r → ∃ o : Obj, W.heap[r]? = some o ∧ o.isCells = false := fun r e => (hr r e).2
  exact ⟨h0, pre', x, h1, h2, h3, boxedOwn h4 hg hr2, boxedOwn h5 hg hr2, boxedOwn h6 hg hr2,
    (ownFrom_below (β := Unit) (n₀ := g0) (B := B) (w₀ := w) (by omega) hB) () W W' row h7 hg hr⟩
theorem info38 : (Try.prog.info? 38).map (fun i => (i.zero, i.size, i.bytes)) = some (some (.slice none 0 0), 1, 24) := by kernel_rfl
theorem hidOut {p : Prop} (h : Hid p) : p := h.out
/-- In a round: what stays as it lay at its start (W). -/
def PMid (g0 : Nat) (s : ByteArray) (d : Int) (w W W5 : World) : Prop :=
  Boxed W5 g0 41 (.slice none 0 0) ∧ Boxed W5 (g0 + 1) 3 (.int .i64 0) ∧ Boxed W5 (g0 + 1 + 1) 28 (.int .i64 0) ∧ Boxed W5 (g0 + 1 + 1 + 1 + 1) 9 (.string s) ∧ Boxed W5 (g0 + 1 + 1 + 1 + 1 + 1) 5 (.int .u8 d) ∧ g0 + 6 ≤ W5.heap.size ∧ Below g0 w W5 ∧ KeepsOthers W W5 ∧
  (∀ (k : Nat) (cs : Array Value) (fr : Nat × Nat), W.heap[k]? = some (.cells cs 80 fr) → W5.heap[k]? = some (.cells cs 80 fr))
theorem PMid.grown {g0 : Nat} {s : ByteArray} {d : Int} {w W W5 W6 : World} {row : Option Nat} (h : PMid g0 s d w W W5) (hg : W5.grownBy W6 row) (hrow : ∀ k, row = some k → (k = g0 + 1 + 1 + 1 ∨ g0 + 6 ≤ k) ∧ ∃ cells t fz, t ≠ 80 ∧ W5.heap[k]? = some (.cells cells t fz)) : PMid g0 s d w W W6 := by
  obtain ⟨h1, h2, h3, h4, h5, h6, h7, h8, h9⟩ := h
  have ne : ∀ k, k < g0 + 6 → k ≠ g0 + 1 + 1 + 1 → some k ≠ row := fun k hk h3 e => by have := (hrow k e.symm).1; omega
  refine ⟨h1.kept hg (ne _ (by omega) (by omega)), h2.kept hg (ne _ (by omega) (by omega)), h3.kept hg (ne _ (by omega) (by omega)), h4.kept hg (ne _ (by omega) (by omega)), h5.kept hg (ne _ (by omega) (by omega)), by have := hg.size; omega,
    h7.grown hg (by omega) (fun k e => by have := (hrow k e).1; omega), h8.trans (KeepsOthers.of_grownBy hg (fun j o e ho => by
      obtain ⟨_, cells, t, fz, _, hc⟩ := hrow j e
      rw [hc] at ho
      rw [← Option.some.inj ho]; rfl)), fun k cs fr e => ?_⟩
  have e5 := h9 k cs fr e
  refine (hg.block k (Array.getElem?_eq_some_iff.1 e5).1 (fun er => ?_)).trans e5
  obtain ⟨_, cells, t, fz, ht, hc⟩ := hrow k er.symm
  rw [hc] at e5
  injection e5 with e6
  injection e6 with _ e7 _
  exact ht e7
theorem PMid.start {g0 : Nat} {s : ByteArray} {d : Int} {w W : World} {pre : List It} (h : PInv g0 s d w pre W) : PMid g0 s d w W W := by
  obtain ⟨_, h3, h4, h5, h6, h7, h8, h9, h10⟩ := h
  exact ⟨h3, h4, h5, h6, h7, h9, h10, KeepsOthers.refl W, fun _ _ _ e => e⟩
theorem PMid.drew {g0 : Nat} {s : ByteArray} {d : Int} {w W W5 : World} (h : PMid g0 s d w W W5) : PMid g0 s d w W W5.drew := by
  obtain ⟨h1, h2, h3, h4, h5, h6, h7, h8, h9⟩ := h
  exact ⟨h1, h2, h3, h4, h5, h6, h7.drew, h8.trans (KeepsOthers.drew _), h9⟩
theorem PMid.kp {g0 : Nat} {s : ByteArray} {d : Int} {w W W5 : World} (h : PMid g0 s d w W W5) : KpP (g0 + 1 + 1 + 1 + 1) (g0 + 1 + 1 + 1 + 1 + 1) s d W W5 :=
  ⟨fun _ => h.2.2.2.1.cell, fun _ => h.2.2.2.2.1.cell, h.2.2.2.2.2.2.2.2⟩
set_option maxHeartbeats 4000000 in
set_option maxRecDepth 100000 in
theorem parse_walk (s : ByteArray) (d : Int) (w : World) (hs : s.size ≤ 1048576) (hg : goodI d = true) (r : List (List ByteArray) × Int × Int) (hr : parseF (toBs s) d = r) :
    Calls Try.prog 40 #[.string s, .int .u8 d] w fun e w' => ∃ v0_ : Value, e = .returned (.tuple #[v0_, .int .i64 r.2.1, .int .i64 r.2.2]) ∧ Kd.S (Kd.slice 9 Kd.string) 38 w' w.heap.size (fun k_ => True) v0_ r.1 ∧ Below w.heap.size w w' := by
  have Hg := Lib.hid (show quote_Good.f d = some true by rw [quote_Good_f, hg])
  have HG := Lib.hid hg
  have HR := Lib.hid hr
  clear hg hr
  refine (callsIn_wide (n := 12)).1 ?_
  refine callsIn_of_wp_marks Try.func40 rfl trivial ?_ rfl
  simp only [Try.ntmps40, List.size_toArray, List.length_cons, List.length_nil, Nat.reduceAdd, Nat.reduceSub, Array.replicate_succ, Array.replicate_zero, List.push_toArray, List.append_toArray, List.nil_append, List.cons_append]
  gi_wp2_with (refine ⟨trivial, ?_⟩; gi_at_call 27; refine (callsIn_wide.2 (quote_Good.calls d true _ Hg.out)).mono ?_; rintro e w' ⟨rfl, ⟨nd, rfl⟩⟩)
  refine ⟨trivial, (callsIn_wide.2 (fields_make _ _ _)).mono ?_⟩
  rintro e w' ⟨rfl, rfl⟩
  gi_wp2
  obtain ⟨W0, hW0⟩ : ∃ W0, W0 = ((((((w.alloc (Obj.cells #[Value.slice none 0 0] 41)).alloc (Obj.cells #[Value.int IntKind.i64 0] 3)).alloc (Obj.cells #[Value.int IntKind.i64 0] 28)).drewN nd).alloc (Obj.cells #[Value.slice none 0 0] 41)).alloc (.cells #[.string s] 9)).alloc (.cells #[.int .u8 d] 5) := ⟨_, rfl⟩
  rw [← hW0]
  have hinv : PInv w.heap.size s d w [] W0 := by
    rw [hW0]
    obtain ⟨W1, hW1⟩ : ∃ W1, W1 = ((w.alloc (Obj.cells #[Value.slice none 0 0] 41)).alloc (Obj.cells #[Value.int IntKind.i64 0] 3)).alloc (Obj.cells #[Value.int IntKind.i64 0] 28) := ⟨_, rfl⟩
    rw [← hW1]
    have z1 : W1.heap.size = w.heap.size + 1 + 1 + 1 := by rw [hW1]; simp
    have e0 : Boxed W1 w.heap.size 41 (.slice none 0 0) := by rw [hW1]; exact ((Boxed.new w 41 _).alloc _).alloc _
    have e1 : Boxed W1 (w.heap.size + 1) 3 (.int .i64 0) := by
      rw [hW1]
      have := (Boxed.new (w.alloc (Obj.cells #[Value.slice none 0 0] 41)) 3 (.int .i64 0)).alloc (Obj.cells #[Value.int IntKind.i64 0] 28)
      rwa [World.size_alloc] at this
    have e2 : Boxed W1 (w.heap.size + 1 + 1) 28 (.int .i64 0) := by
      rw [hW1]
      have := Boxed.new ((w.alloc (Obj.cells #[Value.slice none 0 0] 41)).alloc (Obj.cells #[Value.int IntKind.i64 0] 3)) 28 (.int .i64 0)
      rwa [World.size_alloc, World.size_alloc] at this
    have eB : Below w.heap.size w W1 := by rw [hW1]; exact (((Below.refl _ w).alloc (Nat.le_refl _) _).alloc (by simp) _).alloc (by simp; omega) _
    obtain ⟨W2, hW2⟩ : ∃ W2, W2 = W1.drewN nd := ⟨_, rfl⟩
    rw [← hW2]
    have z2 : W2.heap.size = w.heap.size + 1 + 1 + 1 := by rw [hW2]; exact z1
    have d0 : Boxed W2 w.heap.size 41 (.slice none 0 0) := by rw [hW2]; exact e0
    have d1 : Boxed W2 (w.heap.size + 1) 3 (.int .i64 0) := by rw [hW2]; exact e1
    have d2 : Boxed W2 (w.heap.size + 1 + 1) 28 (.int .i64 0) := by rw [hW2]; exact e2
    have dB : Below w.heap.size w W2 := by rw [hW2]; exact pw_below_drewN eB nd
    clear hW2 hW1
    have n3 := ((Boxed.new W2 41 (.slice none 0 0)).alloc (Obj.cells #[Value.string s] 9)).alloc (Obj.cells #[Value.int IntKind.u8 d] 5)
    have n4 := (Boxed.new (W2.alloc (Obj.cells #[Value.slice none 0 0] 41)) 9 (.string s)).alloc (Obj.cells #[Value.int IntKind.u8 d] 5)
    have n5 := Boxed.new ((W2.alloc (Obj.cells #[Value.slice none 0 0] 41)).alloc (Obj.cells #[Value.string s] 9)) 5 (.int .u8 d)
    rw [z2] at n3
    rw [World.size_alloc, z2] at n4
    rw [World.size_alloc, World.size_alloc, z2] at n5
    exact ⟨⟨_, n3, Kd.S_nil _ _ _ _ _⟩, ((d0.alloc _).alloc _).alloc _, ((d1.alloc _).alloc _).alloc _, ((d2.alloc _).alloc _).alloc _, n4, n5, by simp, by simp [z2], ((dB.alloc (by omega) _).alloc (by simp [z2]; omega) _).alloc (by simp [z2]; omega) _⟩
  have hsz : W0.heap.size = w.heap.size + 6 := by rw [hW0]; simp
  clear hW0
  obtain ⟨g0, hg0⟩ : ∃ g0, g0 = w.heap.size := ⟨_, rfl⟩
  rw [← hg0] at hinv hsz ⊢
  have HG0 := Lib.hid hg0
  clear hg0
  refine wpIn_rangeFunc_next rfl (by omega) (gf := 78) (lb := #[.pointer (some ⟨g0 + 1 + 1 + 1 + 1, 0, none⟩), .pointer (some ⟨g0 + 1 + 1 + 1 + 1 + 1, 0, none⟩)]) rfl trivial (enters_of Try.func78 (by kernel_rfl) rfl)
    (fields_stops s d hs HG.out (g0 + 1 + 1 + 1 + 1) (g0 + 1 + 1 + 1 + 1 + 1) W0 hinv.2.2.2.2.1.cell hinv.2.2.2.2.2.1.cell (by omega) (by omega))
    (fun h k => ⟨fun e => k.1 (h.1 e), fun e => k.2.1 (h.2.1 e), fun i cs fr e => k.2.2 i cs fr (h.2.2 i cs fr e)⟩) ?kb (Below.refl _ _) (fun _ => rfl)
    (PInv g0 s d w) (PStop g0 w) (pInv_own g0 _ s d w (by omega) HG0.out.symm) (fun c => pStop_own g0 _ w (by omega) HG0.out.symm c) hinv
    (fun pre x a1 W => ∃ bf, g0 + 6 ≤ bf ∧ a1 = { tmps := #[.string s, .int .u8 d, undef, undef, .pointer (some ⟨g0, 0, none⟩), .pointer (some ⟨g0 + 1, 0, none⟩), .pointer (some ⟨g0 + 1 + 1, 0, none⟩), .pointer (some ⟨g0 + 1 + 1 + 1, 0, none⟩), .int .i64 x.m, .pointer (some ⟨bf, 0, none⟩), .int .u8 d, .bool true, .bool false, .string s, .int .i64 s.size, .bool (decide (4194304 < (s.size : Int))), .string s, .int .u8 d,
        .func (.func 78) #[] #[.pointer (some ⟨g0 + 1 + 1 + 1 + 1, 0, none⟩), .pointer (some ⟨g0 + 1 + 1 + 1 + 1 + 1, 0, none⟩)], .int .i64 x.m, .agg #[.string x.c, .int .i64 x.kind, .int .i64 x.pl, .int .i64 x.e], undef, undef, undef, undef, undef, undef, undef, undef, undef, undef, undef, undef, undef, undef, undef, undef, undef, undef, undef, undef, undef, undef, undef, undef, undef, undef], defers := [] } ∧
      W.heap[bf]? = some (.cells #[.string x.c, .int .i64 x.kind, .int .i64 x.pl, .int .i64 x.e] 80 (0, 0)) ∧ PInv g0 s d w pre W ∧ NextIt (its (toBs s) d) pre x) ?hM ?assign ?body ?done ?stop
  case kb =>
    intro W l o o' hl hW ho _
    have hk : ∀ r, some l = some r → ∃ o : Obj, W.heap[r]? = some o ∧ o.isCells = false := fun r e => by cases e; exact ⟨o, hW, ho⟩
    exact ⟨fun hv => cell_kept hv (grownBy_putObj' W l o') hk, fun hv => cell_kept hv (grownBy_putObj' W l o') hk, fun i cs fr e => (grownBy_keeps_cells (grownBy_putObj' W l o') hk e rfl).trans e⟩
  case hM =>
    rintro pre x a1 u W W' row ⟨bf, h0, h1, h2, h3, h4⟩ hg hr
    exact ⟨bf, h0, h1, (grownBy_keeps_cells hg (fun r e => (hr r e).2) h2 rfl).trans h2, pInv_own g0 W0.heap.size s d w (by omega) HG0.out.symm pre W W' row h3 hg hr, h4⟩
  case assign =>
    intro l pre x W K hI hR hK
    simp only [encIt]
    have HK := Lib.hid hK
    have HI := Lib.hid hI
    have HR := Lib.hid hR
    clear hK hI hR
    gi_wp2
    have m := (PMid.start HI.out).grown (World.grownBy_alloc W (Obj.cells #[Value.string x.c, Value.int IntKind.i64 x.kind, Value.int IntKind.i64 x.pl, Value.int IntKind.i64 x.e] 80) none) (fun k e => by cases e)
    refine HK.out _ _ (KeepsOthers.alloc W _) m.kp ⟨W.heap.size, HI.out.2.2.2.2.2.2.2.1, rfl, World.alloc_heap_new W _, (pInv_own g0 W0.heap.size s d w (by omega) HG0.out.symm).alloc _ HI.out, HR.out⟩
  case body =>
    rintro l pre x a1 W ⟨bf, hbf, rfl, hb, hI, hN⟩
    obtain ⟨⟨v, h1, h2⟩, h3, h4, h5, h6, h7, h8, h9, h10⟩ := hI
    obtain ⟨A, cv, rfl⟩ := Kd.S_slice h2
    have F0 : W.cell? ⟨bf, 0, none⟩ = some (.string x.c) := by rw [Lib.cell_of_heap hb]; rfl
    have F2 : W.cell? ⟨bf, 2, none⟩ = some (.int .i64 x.pl) := by rw [Lib.cell_of_heap hb]; rfl
    have F3 : W.cell? ⟨bf, 3, none⟩ = some (.int .i64 x.e) := by rw [Lib.cell_of_heap hb]; rfl
    refine wpIn_block ?_
    refine wpIn_seq_k (fun K1 hK1 => ?_)
    have HK1 := Lib.hid hK1
    clear hK1
    refine wpIn_seq_k (fun K2 hK2 => ?_)
    have HK2 := Lib.hid hK2
    clear hK2
    by_cases he : x.e = 0
    · have he1 : ((x.e : Int) != 0) = false := bne_eq_false_iff_eq.2 (by omega)
      have c1 := h1.cell
      gi_wp2
      refine HK2.out _ _ ?_
      refine wpIn_cond_false rfl ?_
      refine wpIn_skip ?_
      refine HK1.out _ _ ?_
      refine wpIn_seq_k (fun K4 hK4 => ?_)
      have R13 : ∀ (u29 u30 u31 u32 u33 u34 : Value) (W5 : World) (g n cap : Nat) (rows : List (List ByteArray)), Boxed W5 (g0 + 1 + 1 + 1) 41 (.slice (some ⟨g, 0, none⟩) n cap) → Kd.S (Kd.slice 9 Kd.string) 38 W5 (g0 + 6) (fun _ => True) (.slice (some ⟨g, 0, none⟩) n cap) rows → x.m < n → Within rows 2000000 →
          rowsOf (pre ++ [x]) = rows.set x.m (rows.getD x.m [] ++ [x.c]) → PMid g0 s d w W W5 → K4 { tmps := #[.string s, .int .u8 d, undef, undef, .pointer (some ⟨g0, 0, none⟩), .pointer (some ⟨g0 + 1, 0, none⟩), .pointer (some ⟨g0 + 1 + 1, 0, none⟩), .pointer (some ⟨g0 + 1 + 1 + 1, 0, none⟩), .int .i64 x.m, .pointer (some ⟨bf, 0, none⟩), .int .u8 d, .bool true, .bool false, .string s, .int .i64 s.size, .bool (decide (4194304 < (s.size : Int))), .string s, .int .u8 d, .func (.func 78) #[] #[.pointer (some ⟨g0 + 1 + 1 + 1 + 1, 0, none⟩), .pointer (some ⟨g0 + 1 + 1 + 1 + 1 + 1, 0, none⟩)], .int .i64 x.m, .agg #[.string x.c, .int .i64 x.kind, .int .i64 x.pl, .int .i64 0], .pointer (some ⟨bf, 3, none⟩), .int .i64 0, .bool false, undef, undef, undef, undef, .int .i64 x.m, u29, u30, u31, u32, u33, u34, undef, undef, undef, undef, undef, undef, undef, undef, undef, undef, undef, undef], defers := [] } W5 := by
        intro u29 u30 u31 u32 u33 u34 W5 g n cap rows hbx hS hmn hwi hrows hmid
        refine hK4 _ _ ?_
        obtain ⟨vi, C1, hfz, hgb, hglt, hvi, ⟨gc, hgc⟩, okv, hokv, hRv, hback⟩ := row_open hS x.m hmn
        have C0 := hbx.cell
        have hbf5 := hmid.2.2.2.2.2.2.2.2 bf _ _ hb
        have C2 : W5.cell? ⟨bf, 0, none⟩ = some (.string x.c) := by rw [Lib.cell_of_heap hbf5]; rfl
        have n0 : some (g0 + 1 + 1 + 1) ≠ vi.ownBlock := fun e => by have := (hvi _ e.symm).2.1; omega
        have n1 : some g ≠ vi.ownBlock := fun e => (hvi _ e.symm).1 rfl
        have n2 : some bf ≠ vi.ownBlock := fun e => by
          obtain ⟨_, _, _, cells, hc⟩ := hvi _ e.symm
          rw [hc] at hbf5
          injection hbf5 with e6
          injection e6 with _ e7 _
          cases e7
        have hbd : g0 + 6 ≤ W5.drew.heap.size := hmid.2.2.2.2.2.1
        have hlv : ((rows.getD x.m []).length + 1) * 16 ≤ 140737488355328 := by have := hwi.2 x.m; omega
        have p0 : (0 : Int) ≤ (x.m : Int) := by omega
        have p1 : (x.m : Int) < (n : Int) := by omega
        refine startIn_ (n := 12) (S := fun w' => w'.cell? ⟨g0 + 1 + 1 + 1, 0, none⟩ = some (.slice (some ⟨g, 0, none⟩) n cap) ∧ w'.cell? ⟨g, x.m, none⟩ = some vi ∧ w'.cell? ⟨bf, 0, none⟩ = some (.string x.c)) (ds := [11]) #[false, false, false, false, false, false, false, false, false, false, false, false] (by kernel_rfl) (by rintro ⟨_, _, h⟩; exact h) (by kernel_rfl) rfl rfl ⟨C0, C1, C2⟩ (fun hHeld => ?_)
        refine pure_ (i := 1) (N := some 36) (v := ?_) (a' := ?_) #[false, true, false, false, false, false, false, false, false, false, false, false] rfl rfl (by kernel_rfl) (fun _ _ _ h => h) (Or.inl ⟨by rfl, ?_⟩) ?_ ?_
        rotate_left
        · intro w'
          go_simp
          with_reducible rfl
        rotate_left
        · simp only [Act.put, List.setIfInBounds_toArray, List.set_cons_zero, List.set_cons_succ, i64_w, i32_w]
          rfl
        refine pure_ (i := 3) (N := some 38) (v := ?_) (a' := ?_) #[false, true, false, true, false, false, false, false, false, false, false, false] rfl rfl (by kernel_rfl) (fun _ _ _ h => h) (Or.inl ⟨by rfl, ?_⟩) ?_ ?_
        rotate_left
        · intro w'
          go_simp
          with_reducible rfl
        rotate_left
        · simp only [Act.put, List.setIfInBounds_toArray, List.set_cons_zero, List.set_cons_succ, i64_w, i32_w]
          rfl
        refine pure_ (i := 6) (N := some 41) (v := ?_) (a' := ?_) #[false, true, false, true, false, false, true, false, false, false, false, false] rfl rfl (by kernel_rfl) (fun _ _ _ h => h) (Or.inl ⟨by rfl, ?_⟩) ?_ ?_
        rotate_left
        · intro w'
          go_simp
          with_reducible rfl
        rotate_left
        · simp only [Act.put, List.setIfInBounds_toArray, List.set_cons_zero, List.set_cons_succ, i64_w, i32_w]
          rfl
        refine take_ (i := 0) (N := some 35) (v := ?_) (a' := ?_) #[true, true, false, true, false, false, true, false, false, false, false, false] rfl rfl (by kernel_rfl) (fun _ _ _ h => h) (Or.inl ⟨by rfl, ?_⟩) hHeld ?_ ?_
        rotate_left
        · rintro w' ⟨s0, s1, s2⟩
          go_simp
          with_reducible rfl
        rotate_left
        · simp only [Act.put, List.setIfInBounds_toArray, List.set_cons_zero, List.set_cons_succ, i64_w, i32_w]
          rfl
        refine take_ (i := 2) (N := some 37) (v := ?_) (a' := ?_) #[true, true, true, true, false, false, true, false, false, false, false, false] rfl rfl (by kernel_rfl) (fun _ _ _ h => h) (Or.inl ⟨by rfl, ?_⟩) hHeld ?_ ?_
        rotate_left
        · rintro w' ⟨s0, s1, s2⟩
          go_simp
          with_reducible rfl
        rotate_left
        · simp only [Act.put, List.setIfInBounds_toArray, List.set_cons_zero, List.set_cons_succ, i64_w, i32_w]
          rfl
        refine pure_ (i := 4) (N := some 39) (v := ?_) (a' := ?_) #[true, true, true, true, true, false, true, false, false, false, false, false] rfl rfl (by kernel_rfl) (fun _ _ _ h => h) (Or.inl ⟨by rfl, ?_⟩) ?_ ?_
        rotate_left
        · intro w'
          go_simp
          with_reducible rfl
        rotate_left
        · simp only [Act.put, List.setIfInBounds_toArray, List.set_cons_zero, List.set_cons_succ, i64_w, i32_w]
          rfl
        refine take_ (i := 5) (N := some 40) (v := ?_) (a' := ?_) #[true, true, true, true, true, true, true, false, false, false, false, false] rfl rfl (by kernel_rfl) (fun _ _ _ h => h) (Or.inl ⟨by rfl, ?_⟩) hHeld ?_ ?_
        rotate_left
        · rintro w' ⟨s0, s1, s2⟩
          go_simp
          with_reducible rfl
        rotate_left
        · simp only [Act.put, List.setIfInBounds_toArray, List.set_cons_zero, List.set_cons_succ, i64_w, i32_w]
          rfl
        refine take_ (i := 7) (N := some 42) (v := ?_) (a' := ?_) #[true, true, true, true, true, true, true, true, false, false, false, false] rfl rfl (by kernel_rfl) (fun _ _ _ h => h) (Or.inl ⟨by rfl, ?_⟩) hHeld ?_ ?_
        rotate_left
        · rintro w' ⟨s0, s1, s2⟩
          go_simp
          with_reducible rfl
        rotate_left
        · simp only [Act.put, List.setIfInBounds_toArray, List.set_cons_zero, List.set_cons_succ, i64_w, i32_w]
          rfl
        refine one_ (i := 8) (N := some 43) #[true, true, true, true, true, true, true, true, true, false, false, false] rfl rfl (by kernel_rfl) (by decide) (fun K hK => ?_)
        refine value_ (w1 := ?_) (v := ?_) (by rfl) rfl ?_ ?_
        rotate_left 2
        · go_simp
          constructor
          · rfl
          · rfl
        refine hK.out _ _ ⟨cellAlloc C0 _, cellAlloc C1 _, cellAlloc C2 _⟩ (fun hHeld => ?_)
        clear hK K
        refine norm_ (a' := ?_) ?_ ?_
        rotate_left
        · show Act.put _ (some 43) _ = _
          simp only [Act.put, List.setIfInBounds_toArray, List.set_cons_zero, List.set_cons_succ, i64_w, i32_w]
          rfl
        refine one_ (i := 9) (N := some 44) #[true, true, true, true, true, true, true, true, true, true, false, false] rfl rfl (by kernel_rfl) (by decide) (fun K hK => ?_)
        refine Kd.R_append_step Kd.string (w0 := W5.drew) (W := W5.drew) (P := Try.prog) (g0 + 6) ?hw (.tmp 40) (.tmp 43) 38 9 (.string ⟨#[]⟩) 16 ?ho Try.underlying38 info9 rfl (by decide) (by omega) vi (rows.getD x.m []) x.c [.string x.c] okv (fun _ => False) ?h1 ?h2 ?aP (fun _ hk => hk.elim) ?aF ?aO ?aB ?aS ?aL ?_
        (case hw => rfl)
        (case ho => rfl)
        (case h1 => rfl)
        (case h2 => rfl)
        (case aP => exact rfl)
        (case aF => exact hokv)
        (case aO => exact Kd.R_drew hRv)
        (case aB => exact Below.refl _ _)
        (case aS => exact hbd)
        (case aL => exact hlv)
        intro v1 w1 hR1 hb1 hg1 hat1
        have hg2 : W5.grownBy w1 vi.ownBlock := ⟨hg1.os, hg1.tape, hg1.output, hg1.size, hg1.block⟩
        obtain ⟨A1, c1, hv1⟩ := Kd.R_slice hR1
        obtain ⟨ln, hln⟩ : ∃ q, q = (rows.getD x.m [] ++ [x.c]).length := ⟨_, rfl⟩
        rw [← hln] at hv1
        subst hv1
        clear hln
        refine hK.out _ _ ⟨cellGrown C0 hg2 n0, cellGrown C1 hg2 n1, cellGrown C2 hg2 n2⟩ (fun hHeld => ?_)
        clear hK K
        refine norm_ (a' := ?_) ?_ ?_
        rotate_left
        · show Act.put _ (some 44) _ = _
          simp only [Act.put, List.setIfInBounds_toArray, List.set_cons_zero, List.set_cons_succ, i64_w, i32_w]
          rfl
        refine pure_ (i := 10) (N := some 45) (v := ?_) (a' := ?_) #[true, true, true, true, true, true, true, true, true, true, true, false] rfl rfl (by kernel_rfl) (fun _ _ _ h => h) (Or.inl ⟨by rfl, ?_⟩) ?_ ?_
        rotate_left
        · intro w'
          go_simp
          with_reducible rfl
        rotate_left
        · simp only [Act.put, List.setIfInBounds_toArray, List.set_cons_zero, List.set_cons_succ, i64_w, i32_w]
          rfl
        refine last_ (i := 11) (N := none) #[true, true, true, true, true, true, true, true, true, true, true, true] rfl rfl (by kernel_rfl) (by decide) (fun K hK => ?_)
        have C1b := cellGrown C1 hg2 n1
        have Z1b := frozenGrown hglt hfz hg2 n1
        refine skip_ (w1 := ?_) (by rfl) rfl ?_ ?_
        rotate_left
        · go_simp
          rfl
        refine hK.out _ _ ?_
        clear hK K
        refine done_ (by kernel_rfl) ?_

        obtain ⟨hS2, hg3⟩ := hback w1 _ _ hR1 hg2
        have m1 := hmid.grown hg2 (fun k e => ⟨.inr (hvi k e).2.1, by
          obtain ⟨_, _, _, cells, hc⟩ := hvi k e
          exact ⟨cells, 9, (0, 0), by decide, hc⟩⟩)
        have hgc1 : w1.heap[g]? = some (.cells gc 38 (0, 0)) := (hg2.block g hglt n1).trans hgc
        have m2 := m1.grown hg3 (fun k e => by
          cases e
          exact ⟨.inr hgb, gc, 38, (0, 0), by decide, hgc1⟩)
        refine ⟨m2.2.2.2.2.2.2.2.1, m2.kp, ⟨_, (hbx.kept hg2 n0).kept hg3 (fun e => by have := Option.some.inj e; omega), ?_⟩, m2.1, m2.2.1, m2.2.2.1, m2.2.2.2.1, m2.2.2.2.2.1, ?_, m2.2.2.2.2.2.1, m2.2.2.2.2.2.2.1⟩
        · rw [hrows]; exact hS2
        · intro i hi
          rcases List.mem_append.1 hi with hi | hi
          · exact h8 i hi
          · rw [List.mem_singleton.1 hi]; exact he
      have R13 := Lib.hid R13
      clear hK4
      refine wpIn_seq_k (fun K5 hK5 => ?_)
      have HK5 := Lib.hid hK5
      clear hK5
      have hI := PMid.start (g0 := g0) (s := s) (d := d) (w := w) (W := W) (pre := pre) ⟨⟨_, h1, h2⟩, h3, h4, h5, h6, h7, h8, h9, h10⟩
      have hwin := next_within (toBs s) d pre x hN
      rw [size_toBs] at hwin
      by_cases hm : x.m = (rowsOf pre).length
      · have hm1 : ((x.m : Int) == ((rowsOf pre).length : Int)) = true := beq_iff_eq.2 (by omega)
        have Hm := Lib.hid hm
        have f1 := h1.frozen
        have HN := Lib.hid hN
        have HI := Lib.hid hI
        have HW := Lib.hid hwin
        have H2 := Lib.hid h2
        clear hm hN hI hwin h2
        gi_wp2
        refine HK5.out _ _ ?_
        refine wpIn_cond_true rfl ?_
        refine wpIn_region_round (by rfl) (by rintro ⟨_, _, h⟩; exact h) ?_
        have hbs : g0 + 6 ≤ W.heap.size := h9
        have hll : ((rowsOf pre).length + 1) * 24 ≤ 140737488355328 := by have := HW.out.1; omega
        go_wp2_with ((with_reducible refine gate_builtin (b := .append) (xs := #[.tmp 32, .tmp 33]) rfl ?_); at_builtin; refine hidOut ?_)
        refine Lib.hid ?_
        refine Kd.S_append (Kd.slice 9 Kd.string) (w0 := W) (W := W) (P := Try.prog) (g0 + 6) ?hg (.tmp 32) (.tmp 33) 41 38 (.slice none 0 0) 24 ?ho Try.underlying41 info38 rfl (by decide) (by omega) (.slice A (rowsOf pre).length cv) (rowsOf pre) [] [.slice none 0 0] (fun _ => True) (fun _ => False) ?h1 ?h2 ?aP (fun _ hk => hk.elim) ?aF ?aO ?aB ?aS ?aL ?_
        (case hg => rfl)
        (case ho => rfl)
        (case h1 => rfl)
        (case h2 => rfl)
        (case aP => exact ⟨_, rfl, Kd.R_nil _ _ _ _ _⟩)
        (case aF => exact fun _ _ => trivial)
        (case aO => exact Kd.S_mono H2.out (fun _ _ => ⟨trivial, not_false⟩))
        (case aB => exact Below.refl _ _)
        (case aS => exact hbs)
        (case aL => exact hll)
        intro v1 w1 hS1 hb1 hg1 hat1
        have n0 : some (g0 + 1 + 1 + 1) ≠ (Value.slice A (rowsOf pre).length cv).ownBlock := fun e => by have := Kd.S_base H2.out _ e.symm; omega
        have hbx1 := h1.kept hg1 n0
        have m1 := HI.out.grown hg1 (fun k e => by
          obtain ⟨cells, hc⟩ := Kd.S_typed H2.out k e
          exact ⟨.inr (Kd.S_base H2.out k e), cells, 38, (0, 0), by decide, hc⟩)
        obtain ⟨g, cap, hv1, _⟩ := Kd.S_form hS1 (by simp)
        obtain ⟨ln, hln⟩ : ∃ q, q = (rowsOf pre ++ [[]]).length := ⟨_, rfl⟩
        rw [← hln] at hv1
        subst hv1
        have hlt : x.m < ln := by rw [hln, Hm.out]; simp
        have m2 := m1.grown (grownBy_setCell' w1 (g0 + 1 + 1 + 1) (.slice (some ⟨g, 0, none⟩) ln cap)) (fun k e => by
          cases e
          exact ⟨.inl rfl, _, 41, _, by decide, hbx1⟩)
        have M2 := Lib.hid m2
        have HX := Lib.hid hbx1
        have HS := Lib.hid hS1
        have c1b := hbx1.cell
        have f1b := hbx1.frozen
        clear m1 m2 hbx1 hS1 hln
        go_wp2
        refine R13.out _ _ _ _ _ _ _ g ln cap (rowsOf pre ++ [[]]) (HX.out.set _) (sElder HS.out (by show g0 + 1 + 1 + 1 < g0 + 6; omega) _) hlt ?_ (rowsOf_new pre x Hm.out) M2.out
        obtain ⟨q1, q2⟩ := HW.out
        refine ⟨by simp; omega, fun i => ?_⟩
        have := q2 i
        rw [List.getD_eq_getElem?_getD] at this ⊢
        rw [List.getElem?_append]
        split
        · omega
        · rcases Nat.eq_zero_or_pos (i - (rowsOf pre).length) with e | e
          · rw [e]; simp
          · rw [List.getElem?_eq_none (by simp; omega)]; simp
      · have hm1 : ((x.m : Int) == ((rowsOf pre).length : Int)) = false := beq_eq_false_iff_ne.2 (by omega)
        have hlt : x.m < (rowsOf pre).length := by have := next_m (toBs s) d pre x hN; omega
        have hrw := rowsOf_more pre x hm
        obtain ⟨g, cap, hv, _⟩ := Kd.S_form h2 (by omega)
        injection hv with e1 e2 e3
        subst e1
        subst e3
        have Hw := Lib.hid hwin
        have H2 := Lib.hid h2
        have HI := Lib.hid hI
        have HR2 := Lib.hid hrw
        clear hwin h2 hI hrw
        gi_wp2
        refine HK5.out _ _ ?_
        refine wpIn_cond_false rfl ?_
        refine wpIn_skip ?_
        exact R13.out _ _ _ _ _ _ _ g _ _ (rowsOf pre) h1 H2.out hlt ⟨by have := Hw.out.1; omega, fun i => by have := Hw.out.2 i; omega⟩ HR2.out HI.out
    · have he1 : ((x.e : Int) != 0) = true := bne_iff_ne.2 (by omega)
      have c1 := h3.cell
      have c2 := h4.cell
      have c3 := h5.cell
      have f1 := h3.frozen
      have f2 := h4.frozen
      have f3 := h5.frozen
      gi_wp2
      refine HK2.out _ _ ?_
      refine wpIn_cond_true rfl ?_
      refine wpIn_seq_k (fun K3 hK3 => ?_)
      have HK3 := Lib.hid hK3
      clear hK3
      have hI := PMid.start (g0 := g0) (s := s) (d := d) (w := w) (W := W) (pre := pre) ⟨⟨_, h1, h2⟩, h3, h4, h5, h6, h7, h8, h9, h10⟩
      have n0 : g0 ≠ bf := by omega
      have n1 : g0 + 1 ≠ bf := by omega
      have n2 : g0 + 1 + 1 ≠ bf := by omega
      refine startIn_ (n := 7) (S := fun w' => w'.cell? ⟨bf, 2, none⟩ = some (.int .i64 x.pl) ∧ w'.cell? ⟨bf, 3, none⟩ = some (.int .i64 x.e)) (ds := []) #[false, false, false, false, false, false, false] (by kernel_rfl) (by rintro ⟨_, _, h⟩; exact h) (by kernel_rfl) rfl rfl ⟨F2, F3⟩ (fun hHeld => ?_)
      refine pure_ (i := 0) (N := some 24) (v := ?_) (a' := ?_) #[true, false, false, false, false, false, false] rfl rfl (by kernel_rfl) (fun _ _ _ h => h) (Or.inl ⟨by rfl, ?_⟩) ?_ ?_
      rotate_left
      · intro w'
        go_simp
        with_reducible rfl
      rotate_left
      · simp only [Act.put, List.setIfInBounds_toArray, List.set_cons_zero, List.set_cons_succ, i64_w, i32_w]
        rfl
      refine pure_ (i := 2) (N := some 26) (v := ?_) (a' := ?_) #[true, false, true, false, false, false, false] rfl rfl (by kernel_rfl) (fun _ _ _ h => h) (Or.inl ⟨by rfl, ?_⟩) ?_ ?_
      rotate_left
      · intro w'
        go_simp
        with_reducible rfl
      rotate_left
      · simp only [Act.put, List.setIfInBounds_toArray, List.set_cons_zero, List.set_cons_succ, i64_w, i32_w]
        rfl
      refine take_ (i := 1) (N := some 25) (v := ?_) (a' := ?_) #[true, true, true, false, false, false, false] rfl rfl (by kernel_rfl) (fun _ _ _ h => h) (Or.inl ⟨by rfl, ?_⟩) hHeld ?_ ?_
      rotate_left
      · rintro w' ⟨s0, s1⟩
        go_simp
        with_reducible rfl
      rotate_left
      · simp only [Act.put, List.setIfInBounds_toArray, List.set_cons_zero, List.set_cons_succ, i64_w, i32_w]
        rfl
      refine take_ (i := 3) (N := some 27) (v := ?_) (a' := ?_) #[true, true, true, true, false, false, false] rfl rfl (by kernel_rfl) (fun _ _ _ h => h) (Or.inl ⟨by rfl, ?_⟩) hHeld ?_ ?_
      rotate_left
      · rintro w' ⟨s0, s1⟩
        go_simp
        with_reducible rfl
      rotate_left
      · simp only [Act.put, List.setIfInBounds_toArray, List.set_cons_zero, List.set_cons_succ, i64_w, i32_w]
        rfl
      refine one_ (i := 4) (N := none) #[true, true, true, true, true, false, false] rfl rfl (by kernel_rfl) (by decide) (fun K hK => ?_)
      refine skip_ (w1 := ?_) (by rfl) rfl ?_ ?_
      rotate_left
      · go_simp
        rfl
      refine hK.out _ _ ⟨cellFar F2 n0, cellFar F3 n0⟩ (fun hHeld => ?_)
      clear hK K
      refine one_ (i := 5) (N := none) #[true, true, true, true, true, true, false] rfl rfl (by kernel_rfl) (by decide) (fun K hK => ?_)
      refine skip_ (w1 := ?_) (by rfl) rfl ?_ ?_
      rotate_left
      · go_simp
        rfl
      refine hK.out _ _ ⟨cellFar (cellFar F2 n0) n1, cellFar (cellFar F3 n0) n1⟩ (fun hHeld => ?_)
      clear hK K
      refine one_ (i := 6) (N := none) #[true, true, true, true, true, true, true] rfl rfl (by kernel_rfl) (by decide) (fun K hK => ?_)
      refine skip_ (w1 := ?_) (by rfl) rfl ?_ ?_
      rotate_left
      · go_simp
        rfl
      refine hK.out _ _ ⟨cellFar (cellFar (cellFar F2 n0) n1) n2, cellFar (cellFar (cellFar F3 n0) n1) n2⟩ (fun hHeld => ?_)
      clear hK K
      refine done_ (by kernel_rfl) ?_

      refine HK3.out _ _ ?_
      refine wpIn_ret ?_
      refine ⟨(((KeepsOthers.setCell _ _ _).trans (KeepsOthers.setCell _ _ _)).trans (KeepsOthers.setCell _ _ _)).trans (KeepsOthers.drew _), rfl, pre, x, rfl, he, h8, ?_, ?_, ?_, ?_⟩
      · exact boxedFar (boxedFar (h3.set _) (by show g0 ≠ g0 + 1; omega) _) (by show g0 ≠ g0 + 1 + 1; omega) _
      · exact boxedFar ((boxedFar h4 (by show g0 + 1 ≠ g0; omega) _).set _) (by show g0 + 1 ≠ g0 + 1 + 1; omega) _
      · exact (boxedFar (boxedFar h5 (by show g0 + 1 + 1 ≠ g0; omega) _) (by show g0 + 1 + 1 ≠ g0 + 1; omega) _).set _
      · exact (((h10.setCell (by show g0 ≤ g0; omega) _).setCell (by show g0 ≤ g0 + 1; omega) _).setCell (by show g0 ≤ g0 + 1 + 1; omega) _).drew
  case done =>
    rintro D xs W hD rfl hI hK
    obtain ⟨⟨v, h1, h2⟩, h3, h4, h5, h6, h7, h8, h9, h10⟩ := hI
    obtain ⟨A, cv, rfl⟩ := Kd.S_slice h2
    have c0 := h1.cell
    have c1 := h3.cell
    have c2 := h4.cell
    have c3 := h5.cell
    have f1 := h3.frozen
    have f2 := h4.frozen
    have f3 := h5.frozen
    have H2 := Lib.hid h2
    have H8 := Lib.hid h8
    have H10 := Lib.hid h10
    clear h2 h6 h7 h8 h10
    gi_wp2
    obtain ⟨W3, hW3⟩ : ∃ W3, W3 = ((W.setCell ⟨g0, 0, none⟩ (Value.slice A (rowsOf (its (toBs s) d)).length cv)).setCell ⟨g0 + 1, 0, none⟩ (Value.int IntKind.i64 0)).setCell ⟨g0 + 1 + 1, 0, none⟩ (Value.int IntKind.i64 0) := ⟨_, rfl⟩
    rw [← hW3]
    have hK3 : W3.heap[D]? = some (.deferred (some [])) := by
      rw [hW3, Below.heap_setCell _ _ _ _ (by show D ≠ g0 + 1 + 1; omega), Below.heap_setCell _ _ _ _ (by show D ≠ g0 + 1; omega), Below.heap_setCell _ _ _ _ (by show D ≠ g0; omega)]
      exact hK
    have b0 : Boxed W3 g0 41 (Value.slice A (rowsOf (its (toBs s) d)).length cv) := by
      rw [hW3]; exact boxedFar (boxedFar (h3.set _) (by show g0 ≠ g0 + 1; omega) _) (by show g0 ≠ g0 + 1 + 1; omega) _
    have b1 : Boxed W3 (g0 + 1) 3 (.int .i64 0) := by
      rw [hW3]; exact boxedFar ((boxedFar h4 (by show g0 + 1 ≠ g0; omega) _).set _) (by show g0 + 1 ≠ g0 + 1 + 1; omega) _
    have b2 : Boxed W3 (g0 + 1 + 1) 28 (.int .i64 0) := by
      rw [hW3]; exact (boxedFar (boxedFar h5 (by show g0 + 1 + 1 ≠ g0; omega) _) (by show g0 + 1 + 1 ≠ g0 + 1; omega) _).set _
    have hB3 : Below g0 w W3 := by
      rw [hW3]; exact ((H10.out.setCell (by show g0 ≤ g0; omega) _).setCell (by show g0 ≤ g0 + 1; omega) _).setCell (by show g0 ≤ g0 + 1 + 1; omega) _
    have hS3 : Kd.S (Kd.slice 9 Kd.string) 38 W3 (g0 + 6) (fun _ => True) (Value.slice A (rowsOf (its (toBs s) d)).length cv) (rowsOf (its (toBs s) d)) := by
      rw [hW3]; exact sElder (sElder (sElder H2.out (by show g0 < g0 + 6; omega) _) (by show g0 + 1 < g0 + 6; omega) _) (by show g0 + 1 + 1 < g0 + 6; omega) _
    have hr := HR.out
    rw [parseF_ok _ _ HG.out H8.out] at hr
    subst hr
    clear hW3
    have hg9 := grownBy_putObj' W3 D (.deferred none)
    have hk9 : ∀ r, some D = some r → ∃ o : Obj, W3.heap[r]? = some o ∧ o.isCells = false := fun r e => by cases e; exact ⟨_, hK3, rfl⟩
    refine ⟨by simp, .inl ⟨_, _, rfl, run_takeDeferred hK3, ?_⟩⟩
    refine ⟨_, results_cells _ _ g0 (g0 + 1) (g0 + 1 + 1) _ _ _ rfl rfl rfl (boxedOwn b0 hg9 hk9).cell (boxedOwn b1 hg9 hk9).cell (boxedOwn b2 hg9 hk9).cell, _, rfl, ?_⟩
    rw [← HG0.out]
    exact ⟨Kd.S_lower (sGrown hS3 hg9 hk9) (by omega), hB3.trans (belowK_b (w := w) (by rw [HG0.out]; exact Nat.le_refl _) W3 D _ _ (by rw [← HG0.out]; omega) hK3 rfl rfl)⟩
  case stop =>
    rintro D c pre W hD ⟨rest, hS⟩ hI hK
    obtain ⟨rfl, pre', x, rfl, h1, h2, b0, b1, b2, h6⟩ := hI
    have hr := HR.out
    rw [parseF_stop _ _ HG.out pre' x rest (by rw [hS]; simp) h2 h1] at hr
    subst hr
    have H6 := Lib.hid h6
    clear h6 h2 hS
    have B0 := Lib.hid b0
    have B1 := Lib.hid b1
    have B2 := Lib.hid b2
    clear b0 b1 b2
    gi_wp2
    have hg9 := grownBy_putObj' W D (.deferred none)
    have hk9 : ∀ r, some D = some r → ∃ o : Obj, W.heap[r]? = some o ∧ o.isCells = false := fun r e => by cases e; exact ⟨_, hK, rfl⟩
    refine ⟨by simp, .inl ⟨_, _, rfl, run_takeDeferred hK, ?_⟩⟩
    refine ⟨_, results_cells _ _ g0 (g0 + 1) (g0 + 1 + 1) _ _ _ rfl rfl rfl (boxedOwn B0.out hg9 hk9).cell (boxedOwn B1.out hg9 hk9).cell (boxedOwn B2.out hg9 hk9).cell, _, rfl, ?_⟩
    rw [← HG0.out]
    exact ⟨Kd.S_nil _ _ _ _ _, H6.out.trans (belowK_b (w := w) (by rw [HG0.out]; exact Nat.le_refl _) W D _ _ (by rw [← HG0.out]; omega) hK rfl rfl)⟩
theorem csv_Parse.calls (a0 : ByteArray) (a1 : Int) (r1 : List (List ByteArray)) (r2 r3 : Int) (w : World) (h : csv_Parse.f a0 a1 = some (r1, r2, r3)) :
    Calls Try.prog 40 #[.string a0, .int .u8 a1] w fun e w' => ∃ v0_ : Value, e = .returned (.tuple #[v0_, .int .i64 r2, .int .i64 r3]) ∧ Kd.S (Kd.slice 9 Kd.string) 38 w' w.heap.size (fun k_ => True) v0_ r1 ∧ Below w.heap.size w w' := by
  unfold csv_Parse.f at h
  split at h
  · rename_i hs
    have h := Option.some.inj h
    cases hg : goodI a1 with
    | false =>
      unfold parseF at h
      rw [hg, if_neg (by decide)] at h
      simp only [Prod.mk.injEq] at h
      obtain ⟨rfl, rfl, rfl⟩ := h
      exact parse_bad a0 a1 w hg
    | true => exact parse_walk a0 a1 w hs hg (r1, r2, r3) h
  · cases h
end Go.Proofs.Ytggodagdfldndaa.Q.L

/-! Walks of Go functions of this seat against plain Lean functions, written by a program of this session (the kit's print, with hand-proved contracts for what it does not take). Lean checks them. -/
namespace Go.Proofs.Ytggodagdfldndaa.Q.L.M
open Go.RowKit Go.Proofs.YtggodagdfldndaaW.PrintWords Go.Proofs.YtggodagdfldndaaW.PrintLast Go.Proofs.YtggodagdfldndaaW.PrintMore
attribute [local go_sem] max2_int min2_int max_two min_two max_three min_three max_four min_four   -- for this text's walks alone
set_option linter.unusedVariables false
set_option linter.unusedSimpArgs false



def errW : Option Int → Value
  | none => .nilIface
  | some c => .iface 0 (.int .i64 c)
theorem errW_none : errW none = .nilIface := rfl
theorem errW_some (c : Int) : errW (some c) = .iface 0 (.int .i64 c) := rfl

theorem info9 : (Try.prog.info? 9).map (fun i => (i.zero, i.size, i.bytes)) = some (some (.string ⟨#[]⟩), 1, 16) := by kernel_rfl
-- the values' own types

end Go.Proofs.Ytggodagdfldndaa.Q.L.M

/-! Walks of Go functions of this seat against plain Lean functions, written by a program of this session (the kit's print, with hand-proved contracts for what it does not take). Lean checks them. -/
namespace Go.Proofs.Ytggodagdfldndaa.Q.L.M
open Go.RowKit Go.Proofs.YtggodagdfldndaaW.PrintWords Go.Proofs.YtggodagdfldndaaW.PrintLast Go.Proofs.YtggodagdfldndaaW.PrintMore
attribute [local go_sem] max2_int min2_int max_two min_two max_three min_three max_four min_four   -- for this text's walks alone
set_option linter.unusedVariables false
set_option linter.unusedSimpArgs false

-- BY HAND: function 34 (lex_Field)

-- BY HAND: function 36 (lex_Break)

-- BY HAND: function 38 (lex_Write)

/-! ### tartanlaw02_works: function 33 -/
def tartanlaw02_works.f (k : Nat)  : Option (Bool) := (lex_Field.f (⟨#[97, 98, 44, 99]⟩ : ByteArray) 0 44).bind fun bt101 => ((lex_Field.f (⟨#[97, 98, 44, 99]⟩ : ByteArray) 3 44).bind fun bt105 => ((lex_Field.f (⟨#[97, 34, 98]⟩ : ByteArray) 0 44).bind fun bt109 => (if bt101.1.toList = ([97, 98] : List UInt8) then (if bt101.2.1 = 3 then (if bt101.2.2.1 = 1 then (if bt101.2.2.2 = 0 then (if bt105.1.toList = ([99] : List UInt8) then (if bt105.2.1 = 4 then (if bt105.2.2.1 = 3 then (if bt105.2.2.2 = 0 then (if bt109.2.1 = 1 then (if bt109.2.2.2 = 3 then ((lex_Write.f k (([(⟨#[97]⟩ : ByteArray), (⟨#[97, 44, 98]⟩ : ByteArray)] : List ByteArray)) 44 false).bind fun t116 => (if t116.toList = ([97, 44, 34, 97, 44, 98, 34, 10] : List UInt8) then ((lex_Break.f k (⟨#[97, 13, 10]⟩ : ByteArray) 1).bind fun t117 => (if t117 = 2 then ((lex_Break.f k (⟨#[97, 13]⟩ : ByteArray) 1).bind fun t118 => (some (t118 == 0))) else (some false))) else (some false))) else (some false)) else (some false)) else (some false)) else (some false)) else (some false)) else (some false)) else (some false)) else (some false)) else (some false)) else (some false))))
theorem tartanlaw02_works.mono : ∀ k, LeO (tartanlaw02_works.f k ) (tartanlaw02_works.f (k + 1) ) := by
  intro  k
  unfold tartanlaw02_works.f
  repeat' first
      | (with_reducible exact lex_Break.mono _ _ _)
      | (with_reducible exact lex_Write.mono _ _ _ _)
      | (with_reducible exact LeO.refl _)
      | (with_reducible exact LeO.none _)
      | (with_reducible refine LeO.ite ?_ ?_)
      | (with_reducible refine LeO.bind ?_ (fun _ => ?_))
      | exact lex_Break.mono _ _ _
      | exact lex_Write.mono _ _ _ _
      | exact LeO.none _
      | refine LeO.ite ?_ ?_
      | refine LeO.bind ?_ (fun _ => ?_)
set_option maxHeartbeats 8000000 in
set_option maxRecDepth 100000 in
theorem tartanlaw02_works.calls (k : Nat)  (r : Bool) (w : World) (h : tartanlaw02_works.f k  = some r) :
    Calls Try.prog 33 #[] w fun e w' => e = .returned (.bool r) ∧ Below w.heap.size w w' := by
  have HB := Aside0.mk (Below.refl w.heap.size w)
  have H : ((lex_Field.f (⟨#[97, 98, 44, 99]⟩ : ByteArray) 0 44).bind fun bt101 => ((lex_Field.f (⟨#[97, 98, 44, 99]⟩ : ByteArray) 3 44).bind fun bt105 => ((lex_Field.f (⟨#[97, 34, 98]⟩ : ByteArray) 0 44).bind fun bt109 => (if bt101.1.toList = ([97, 98] : List UInt8) then (if bt101.2.1 = 3 then (if bt101.2.2.1 = 1 then (if bt101.2.2.2 = 0 then (if bt105.1.toList = ([99] : List UInt8) then (if bt105.2.1 = 4 then (if bt105.2.2.1 = 3 then (if bt105.2.2.2 = 0 then (if bt109.2.1 = 1 then (if bt109.2.2.2 = 3 then ((lex_Write.f k (([(⟨#[97]⟩ : ByteArray), (⟨#[97, 44, 98]⟩ : ByteArray)] : List ByteArray)) 44 false).bind fun t116 => (if t116.toList = ([97, 44, 34, 97, 44, 98, 34, 10] : List UInt8) then ((lex_Break.f k (⟨#[97, 13, 10]⟩ : ByteArray) 1).bind fun t117 => (if t117 = 2 then ((lex_Break.f k (⟨#[97, 13]⟩ : ByteArray) 1).bind fun t118 => (some (t118 == 0))) else (some false))) else (some false))) else (some false)) else (some false)) else (some false)) else (some false)) else (some false)) else (some false)) else (some false)) else (some false)) else (some false)) else (some false))))) = some r := h
  clear h
  replace H := Option.bind_eq_some_iff.mp H
  obtain ⟨⟨t101, t102, t103, t104⟩, A10, H⟩ := H
  replace H : ((lex_Field.f (⟨#[97, 98, 44, 99]⟩ : ByteArray) 3 44).bind fun bt105 => ((lex_Field.f (⟨#[97, 34, 98]⟩ : ByteArray) 0 44).bind fun bt109 => (if t101.toList = ([97, 98] : List UInt8) then (if t102 = 3 then (if t103 = 1 then (if t104 = 0 then (if bt105.1.toList = ([99] : List UInt8) then (if bt105.2.1 = 4 then (if bt105.2.2.1 = 3 then (if bt105.2.2.2 = 0 then (if bt109.2.1 = 1 then (if bt109.2.2.2 = 3 then ((lex_Write.f k (([(⟨#[97]⟩ : ByteArray), (⟨#[97, 44, 98]⟩ : ByteArray)] : List ByteArray)) 44 false).bind fun t116 => (if t116.toList = ([97, 44, 34, 97, 44, 98, 34, 10] : List UInt8) then ((lex_Break.f k (⟨#[97, 13, 10]⟩ : ByteArray) 1).bind fun t117 => (if t117 = 2 then ((lex_Break.f k (⟨#[97, 13]⟩ : ByteArray) 1).bind fun t118 => (some (t118 == 0))) else (some false))) else (some false))) else (some false)) else (some false)) else (some false)) else (some false)) else (some false)) else (some false)) else (some false)) else (some false)) else (some false)) else (some false)))) = some r := H
  have A1 := Aside0.mk A10
  clear A10
  replace H := Option.bind_eq_some_iff.mp H
  obtain ⟨⟨t105, t106, t107, t108⟩, A20, H⟩ := H
  replace H : ((lex_Field.f (⟨#[97, 34, 98]⟩ : ByteArray) 0 44).bind fun bt109 => (if t101.toList = ([97, 98] : List UInt8) then (if t102 = 3 then (if t103 = 1 then (if t104 = 0 then (if t105.toList = ([99] : List UInt8) then (if t106 = 4 then (if t107 = 3 then (if t108 = 0 then (if bt109.2.1 = 1 then (if bt109.2.2.2 = 3 then ((lex_Write.f k (([(⟨#[97]⟩ : ByteArray), (⟨#[97, 44, 98]⟩ : ByteArray)] : List ByteArray)) 44 false).bind fun t116 => (if t116.toList = ([97, 44, 34, 97, 44, 98, 34, 10] : List UInt8) then ((lex_Break.f k (⟨#[97, 13, 10]⟩ : ByteArray) 1).bind fun t117 => (if t117 = 2 then ((lex_Break.f k (⟨#[97, 13]⟩ : ByteArray) 1).bind fun t118 => (some (t118 == 0))) else (some false))) else (some false))) else (some false)) else (some false)) else (some false)) else (some false)) else (some false)) else (some false)) else (some false)) else (some false)) else (some false)) else (some false))) = some r := H
  have A2 := Aside0.mk A20
  clear A20
  replace H := Option.bind_eq_some_iff.mp H
  obtain ⟨⟨t109, t110, t111, t112⟩, A30, H⟩ := H
  replace H : (if t101.toList = ([97, 98] : List UInt8) then (if t102 = 3 then (if t103 = 1 then (if t104 = 0 then (if t105.toList = ([99] : List UInt8) then (if t106 = 4 then (if t107 = 3 then (if t108 = 0 then (if t110 = 1 then (if t112 = 3 then ((lex_Write.f k (([(⟨#[97]⟩ : ByteArray), (⟨#[97, 44, 98]⟩ : ByteArray)] : List ByteArray)) 44 false).bind fun t116 => (if t116.toList = ([97, 44, 34, 97, 44, 98, 34, 10] : List UInt8) then ((lex_Break.f k (⟨#[97, 13, 10]⟩ : ByteArray) 1).bind fun t117 => (if t117 = 2 then ((lex_Break.f k (⟨#[97, 13]⟩ : ByteArray) 1).bind fun t118 => (some (t118 == 0))) else (some false))) else (some false))) else (some false)) else (some false)) else (some false)) else (some false)) else (some false)) else (some false)) else (some false)) else (some false)) else (some false)) else (some false)) = some r := H
  have A3 := Aside0.mk A30
  clear A30
  by_cases c4 : t101.toList = ([97, 98] : List UInt8)
  · rw [if_pos c4] at H
    have c4b0 : (t101.toList == ([97, 98] : List UInt8)) = true := beq_iff_eq.mpr c4
    have c4b1 : (t101.toList != ([97, 98] : List UInt8)) = false := bne_eq_false_iff_eq.mpr c4
    clear c4
    by_cases c5 : t102 = 3
    · rw [if_pos c5] at H
      have c5b0 : (t102 == 3) = true := beq_iff_eq.mpr c5
      have c5b1 : (t102 != 3) = false := bne_eq_false_iff_eq.mpr c5
      clear c5
      by_cases c6 : t103 = 1
      · rw [if_pos c6] at H
        have c6b0 : (t103 == 1) = true := beq_iff_eq.mpr c6
        have c6b1 : (t103 != 1) = false := bne_eq_false_iff_eq.mpr c6
        clear c6
        by_cases c7 : t104 = 0
        · rw [if_pos c7] at H
          have c7b0 : (t104 == 0) = true := beq_iff_eq.mpr c7
          have c7b1 : (t104 != 0) = false := bne_eq_false_iff_eq.mpr c7
          clear c7
          by_cases c8 : t105.toList = ([99] : List UInt8)
          · rw [if_pos c8] at H
            have c8b0 : (t105.toList == ([99] : List UInt8)) = true := beq_iff_eq.mpr c8
            have c8b1 : (t105.toList != ([99] : List UInt8)) = false := bne_eq_false_iff_eq.mpr c8
            clear c8
            by_cases c9 : t106 = 4
            · rw [if_pos c9] at H
              have c9b0 : (t106 == 4) = true := beq_iff_eq.mpr c9
              have c9b1 : (t106 != 4) = false := bne_eq_false_iff_eq.mpr c9
              clear c9
              by_cases c10 : t107 = 3
              · rw [if_pos c10] at H
                have c10b0 : (t107 == 3) = true := beq_iff_eq.mpr c10
                have c10b1 : (t107 != 3) = false := bne_eq_false_iff_eq.mpr c10
                clear c10
                by_cases c11 : t108 = 0
                · rw [if_pos c11] at H
                  have c11b0 : (t108 == 0) = true := beq_iff_eq.mpr c11
                  have c11b1 : (t108 != 0) = false := bne_eq_false_iff_eq.mpr c11
                  clear c11
                  by_cases c12 : t110 = 1
                  · rw [if_pos c12] at H
                    have c12b0 : (t110 == 1) = true := beq_iff_eq.mpr c12
                    have c12b1 : (t110 != 1) = false := bne_eq_false_iff_eq.mpr c12
                    clear c12
                    by_cases c13 : t112 = 3
                    · rw [if_pos c13] at H
                      have c13b0 : (t112 == 3) = true := beq_iff_eq.mpr c13
                      have c13b1 : (t112 != 3) = false := bne_eq_false_iff_eq.mpr c13
                      clear c13
                      obtain ⟨y113, hy113⟩ : ∃ y_ : List ByteArray, y_ = (([(⟨#[97]⟩ : ByteArray), (⟨#[97, 44, 98]⟩ : ByteArray)] : List ByteArray)) := ⟨_, rfl⟩
                      replace H : ((lex_Write.f k y113 44 false).bind fun t116 => (if t116.toList = ([97, 44, 34, 97, 44, 98, 34, 10] : List UInt8) then ((lex_Break.f k (⟨#[97, 13, 10]⟩ : ByteArray) 1).bind fun t117 => (if t117 = 2 then ((lex_Break.f k (⟨#[97, 13]⟩ : ByteArray) 1).bind fun t118 => (some (t118 == 0))) else (some false))) else (some false))) = some r := by first | (rw [hy113]; with_reducible exact H) | (have H2_ := (Option.bind_some _ _).symm.trans H; rw [hy113]; with_reducible exact H2_) | (have H2_ := (Option.bind_some _ _).symm.trans H; with_reducible exact H2_) | with_reducible exact H | (rw [hy113]; exact H) | exact H
                      have Ny113 := Aside0.mk hy113
                      clear hy113
                      replace H := Option.bind_eq_some_iff.mp H
                      obtain ⟨t116, A140, H⟩ := H
                      replace H : (if t116.toList = ([97, 44, 34, 97, 44, 98, 34, 10] : List UInt8) then ((lex_Break.f k (⟨#[97, 13, 10]⟩ : ByteArray) 1).bind fun t117 => (if t117 = 2 then ((lex_Break.f k (⟨#[97, 13]⟩ : ByteArray) 1).bind fun t118 => (some (t118 == 0))) else (some false))) else (some false)) = some r := H
                      have A14 := Aside0.mk A140
                      clear A140
                      by_cases c15 : t116.toList = ([97, 44, 34, 97, 44, 98, 34, 10] : List UInt8)
                      · rw [if_pos c15] at H
                        have c15b0 : (t116.toList == ([97, 44, 34, 97, 44, 98, 34, 10] : List UInt8)) = true := beq_iff_eq.mpr c15
                        have c15b1 : (t116.toList != ([97, 44, 34, 97, 44, 98, 34, 10] : List UInt8)) = false := bne_eq_false_iff_eq.mpr c15
                        clear c15
                        replace H := Option.bind_eq_some_iff.mp H
                        obtain ⟨t117, A160, H⟩ := H
                        replace H : (if t117 = 2 then ((lex_Break.f k (⟨#[97, 13]⟩ : ByteArray) 1).bind fun t118 => (some (t118 == 0))) else (some false)) = some r := H
                        have A16 := Aside0.mk A160
                        clear A160
                        by_cases c17 : t117 = 2
                        · rw [if_pos c17] at H
                          have c17b0 : (t117 == 2) = true := beq_iff_eq.mpr c17
                          have c17b1 : (t117 != 2) = false := bne_eq_false_iff_eq.mpr c17
                          clear c17
                          replace H := Option.bind_eq_some_iff.mp H
                          obtain ⟨t118, A180, H⟩ := H
                          replace H : (some (t118 == 0)) = some r := H
                          have A18 := Aside0.mk A180
                          clear A180
                          obtain rfl := Option.some.inj H
                          go_enter Try.func33, Try.ntmps33
                          go_wp2_with (first | ((with_reducible refine gate_callee (f := 34) rfl ?_); refine goesL_ (some 14) rfl rfl Try.func34 (by kernel_rfl) rfl #[.string (⟨#[97, 98, 44, 99]⟩ : ByteArray), .int .i64 0, .int .u8 44] rfl (by (try simp only [List.map_toArray, List.map_cons, List.map_nil]); first | done | rfl | (simp only [List.length_drop, List.length_take]; rfl)) ?_; (with_reducible refine (lex_Field.calls (⟨#[97, 98, 44, 99]⟩ : ByteArray) 0 44 t101 t102 t103 t104 _ A1.out).mono ?_); rintro e w19 ⟨rfl, hb⟩; refine ⟨_, rfl, ?_⟩; have n0_ := Aside0.mk (below_step (by repeat (first | (with_reducible first | exact HB.out | apply below_alloc | apply pw_below_drewN | apply below_drew1) | exact HB.out)) hb); clear HB; have HB := n0_; clear n0_; (try clear hb); (try clear hb2); (try clear hk); (try clear hi)) | ((with_reducible refine gate_callee (f := 34) rfl ?_); refine goesL_ (some 20) rfl rfl Try.func34 (by kernel_rfl) rfl #[.string (⟨#[97, 98, 44, 99]⟩ : ByteArray), .int .i64 3, .int .u8 44] rfl (by (try simp only [List.map_toArray, List.map_cons, List.map_nil]); first | done | rfl | (simp only [List.length_drop, List.length_take]; rfl)) ?_; (with_reducible refine (lex_Field.calls (⟨#[97, 98, 44, 99]⟩ : ByteArray) 3 44 t105 t106 t107 t108 _ A2.out).mono ?_); rintro e w20 ⟨rfl, hb⟩; refine ⟨_, rfl, ?_⟩; have n0_ := Aside0.mk (below_step (by repeat (first | (with_reducible first | exact HB.out | apply below_alloc | apply pw_below_drewN | apply below_drew1) | exact HB.out)) hb); clear HB; have HB := n0_; clear n0_; (try clear hb); (try clear hb2); (try clear hk); (try clear hi)) | ((with_reducible refine gate_callee (f := 34) rfl ?_); refine goesL_ (some 26) rfl rfl Try.func34 (by kernel_rfl) rfl #[.string (⟨#[97, 34, 98]⟩ : ByteArray), .int .i64 0, .int .u8 44] rfl (by (try simp only [List.map_toArray, List.map_cons, List.map_nil]); first | done | rfl | (simp only [List.length_drop, List.length_take]; rfl)) ?_; (with_reducible refine (lex_Field.calls (⟨#[97, 34, 98]⟩ : ByteArray) 0 44 t109 t110 t111 t112 _ A3.out).mono ?_); rintro e w21 ⟨rfl, hb⟩; refine ⟨_, rfl, ?_⟩; have n0_ := Aside0.mk (below_step (by repeat (first | (with_reducible first | exact HB.out | apply below_alloc | apply pw_below_drewN | apply below_drew1) | exact HB.out)) hb); clear HB; have HB := n0_; clear n0_; (try clear hb); (try clear hb2); (try clear hk); (try clear hi)) | ((with_reducible refine gate_dst (N := 70) rfl ?_); (try (refine gate_guard (by rfl) ?_; dsimp only)); refine Kd.R_lit Kd.string _ 9 ?hg (N := 70) ?hd (xs := ([(⟨#[97]⟩ : ByteArray), (⟨#[97, 44, 98]⟩ : ByteArray)] : List ByteArray)) (inner := [.string (⟨#[97]⟩ : ByteArray), .string (⟨#[97, 44, 98]⟩ : ByteArray)]) (ok := fun _ => True) (okp := fun _ => True) ?hr ?hp (fun _ hk => hk) trivial (Below.refl _ _) (Nat.le_refl _) (by simp) ?_; (case hd => rfl); (case hg => rfl); (case hr => first | (go_simp; done) | (go_simp; rfl)); (case hp => exact (Reps.one (show Kd.M Kd.string _ _ _ (⟨#[97]⟩ : ByteArray) [.string (⟨#[97]⟩ : ByteArray)] from rfl) (Reps.one (show Kd.M Kd.string _ _ _ (⟨#[97, 44, 98]⟩ : ByteArray) [.string (⟨#[97, 44, 98]⟩ : ByteArray)] from rfl) (Reps.none _ _)))); intro v114 w22 ho23 hb hg_ hnew_; clear hg_ hnew_; (first | rw [← Ny113.out] at ho23 | (simp only [Int.reduceToNat] at ho23; rw [← Ny113.out] at ho23)); have n0_ := Aside0.mk (Kd.R_lower ho23 (below_size (by repeat (first | (with_reducible first | exact HB.out | apply below_alloc | apply pw_below_drewN | apply below_drew1) | exact HB.out)))); have n1_ := Aside0.mk (below_step (by repeat (first | (with_reducible first | exact HB.out | apply below_alloc | apply pw_below_drewN | apply below_drew1) | exact HB.out)) hb); clear HB; have HO115 := n0_; have HB := n1_; clear n0_ n1_; clear hb ho23; obtain ⟨Ao24, co24, eo24⟩ := Kd.R_slice HO115.out; subst eo24) | (go_at_call 38; (with_reducible refine (lex_Write.calls k _ _ y113 44 false t116 _ ?side1 ?side2 A14.out).mono ?_); (case side1 => repeat (first | exact (Kd.R_reads' HO115.out).2.2 | (with_reducible refine Kd.C_alloc ?_ _) | (with_reducible refine Kd.C_drewN ?_ _) | (with_reducible refine Kd.C_drew ?_))); (case side2 => exact (Kd.R_reads' HO115.out).2.1); rintro e w25 ⟨rfl, hb⟩; have n0_ := Aside0.mk (Kd.R_below (by (with_reducible repeat (first | apply Kd.R_alloc | apply Kd.R_drewN | apply Kd.R_drew)); exact HO115.out) hb); have n1_ := Aside0.mk (below_step (by repeat (first | (with_reducible first | exact HB.out | apply below_alloc | apply pw_below_drewN | apply below_drew1) | exact HB.out)) hb); clear HO115; clear HB; have HO115 := n0_; have HB := n1_; clear n0_ n1_; (try clear hb); (try clear hb2); (try clear hk); (try clear hi)) | (go_at_call 36; (with_reducible refine (lex_Break.calls k (⟨#[97, 13, 10]⟩ : ByteArray) 1 t117 _ A16.out).mono ?_); rintro e w' ⟨rfl, ⟨nd, rfl⟩⟩) | (go_at_call 36; (with_reducible refine (lex_Break.calls k (⟨#[97, 13]⟩ : ByteArray) 1 t118 _ A18.out).mono ?_); rintro e w' ⟨rfl, ⟨nd, rfl⟩⟩))
                          go_ret
                          exact ⟨by first | rfl | (simp [errW_none, errW_some] <;> rfl) | (simp [*, errW_none, errW_some] <;> rfl), by repeat (first | (with_reducible first | exact HB.out | apply below_alloc | apply pw_below_drewN | apply below_drew1) | exact HB.out)⟩
                        · rw [if_neg c17] at H
                          have c17b0 : (t117 == 2) = false := beq_eq_false_iff_ne.mpr c17
                          have c17b1 : (t117 != 2) = true := bne_iff_ne.mpr c17
                          obtain rfl := Option.some.inj H
                          go_enter Try.func33, Try.ntmps33
                          go_wp2_with (first | ((with_reducible refine gate_callee (f := 34) rfl ?_); refine goesL_ (some 14) rfl rfl Try.func34 (by kernel_rfl) rfl #[.string (⟨#[97, 98, 44, 99]⟩ : ByteArray), .int .i64 0, .int .u8 44] rfl (by (try simp only [List.map_toArray, List.map_cons, List.map_nil]); first | done | rfl | (simp only [List.length_drop, List.length_take]; rfl)) ?_; (with_reducible refine (lex_Field.calls (⟨#[97, 98, 44, 99]⟩ : ByteArray) 0 44 t101 t102 t103 t104 _ A1.out).mono ?_); rintro e w26 ⟨rfl, hb⟩; refine ⟨_, rfl, ?_⟩; have n0_ := Aside0.mk (below_step (by repeat (first | (with_reducible first | exact HB.out | apply below_alloc | apply pw_below_drewN | apply below_drew1) | exact HB.out)) hb); clear HB; have HB := n0_; clear n0_; (try clear hb); (try clear hb2); (try clear hk); (try clear hi)) | ((with_reducible refine gate_callee (f := 34) rfl ?_); refine goesL_ (some 20) rfl rfl Try.func34 (by kernel_rfl) rfl #[.string (⟨#[97, 98, 44, 99]⟩ : ByteArray), .int .i64 3, .int .u8 44] rfl (by (try simp only [List.map_toArray, List.map_cons, List.map_nil]); first | done | rfl | (simp only [List.length_drop, List.length_take]; rfl)) ?_; (with_reducible refine (lex_Field.calls (⟨#[97, 98, 44, 99]⟩ : ByteArray) 3 44 t105 t106 t107 t108 _ A2.out).mono ?_); rintro e w27 ⟨rfl, hb⟩; refine ⟨_, rfl, ?_⟩; have n0_ := Aside0.mk (below_step (by repeat (first | (with_reducible first | exact HB.out | apply below_alloc | apply pw_below_drewN | apply below_drew1) | exact HB.out)) hb); clear HB; have HB := n0_; clear n0_; (try clear hb); (try clear hb2); (try clear hk); (try clear hi)) | ((with_reducible refine gate_callee (f := 34) rfl ?_); refine goesL_ (some 26) rfl rfl Try.func34 (by kernel_rfl) rfl #[.string (⟨#[97, 34, 98]⟩ : ByteArray), .int .i64 0, .int .u8 44] rfl (by (try simp only [List.map_toArray, List.map_cons, List.map_nil]); first | done | rfl | (simp only [List.length_drop, List.length_take]; rfl)) ?_; (with_reducible refine (lex_Field.calls (⟨#[97, 34, 98]⟩ : ByteArray) 0 44 t109 t110 t111 t112 _ A3.out).mono ?_); rintro e w28 ⟨rfl, hb⟩; refine ⟨_, rfl, ?_⟩; have n0_ := Aside0.mk (below_step (by repeat (first | (with_reducible first | exact HB.out | apply below_alloc | apply pw_below_drewN | apply below_drew1) | exact HB.out)) hb); clear HB; have HB := n0_; clear n0_; (try clear hb); (try clear hb2); (try clear hk); (try clear hi)) | ((with_reducible refine gate_dst (N := 70) rfl ?_); (try (refine gate_guard (by rfl) ?_; dsimp only)); refine Kd.R_lit Kd.string _ 9 ?hg (N := 70) ?hd (xs := ([(⟨#[97]⟩ : ByteArray), (⟨#[97, 44, 98]⟩ : ByteArray)] : List ByteArray)) (inner := [.string (⟨#[97]⟩ : ByteArray), .string (⟨#[97, 44, 98]⟩ : ByteArray)]) (ok := fun _ => True) (okp := fun _ => True) ?hr ?hp (fun _ hk => hk) trivial (Below.refl _ _) (Nat.le_refl _) (by simp) ?_; (case hd => rfl); (case hg => rfl); (case hr => first | (go_simp; done) | (go_simp; rfl)); (case hp => exact (Reps.one (show Kd.M Kd.string _ _ _ (⟨#[97]⟩ : ByteArray) [.string (⟨#[97]⟩ : ByteArray)] from rfl) (Reps.one (show Kd.M Kd.string _ _ _ (⟨#[97, 44, 98]⟩ : ByteArray) [.string (⟨#[97, 44, 98]⟩ : ByteArray)] from rfl) (Reps.none _ _)))); intro v114 w29 ho30 hb hg_ hnew_; clear hg_ hnew_; (first | rw [← Ny113.out] at ho30 | (simp only [Int.reduceToNat] at ho30; rw [← Ny113.out] at ho30)); have n0_ := Aside0.mk (Kd.R_lower ho30 (below_size (by repeat (first | (with_reducible first | exact HB.out | apply below_alloc | apply pw_below_drewN | apply below_drew1) | exact HB.out)))); have n1_ := Aside0.mk (below_step (by repeat (first | (with_reducible first | exact HB.out | apply below_alloc | apply pw_below_drewN | apply below_drew1) | exact HB.out)) hb); clear HB; have HO115 := n0_; have HB := n1_; clear n0_ n1_; clear hb ho30; obtain ⟨Ao31, co31, eo31⟩ := Kd.R_slice HO115.out; subst eo31) | (go_at_call 38; (with_reducible refine (lex_Write.calls k _ _ y113 44 false t116 _ ?side1 ?side2 A14.out).mono ?_); (case side1 => repeat (first | exact (Kd.R_reads' HO115.out).2.2 | (with_reducible refine Kd.C_alloc ?_ _) | (with_reducible refine Kd.C_drewN ?_ _) | (with_reducible refine Kd.C_drew ?_))); (case side2 => exact (Kd.R_reads' HO115.out).2.1); rintro e w32 ⟨rfl, hb⟩; have n0_ := Aside0.mk (Kd.R_below (by (with_reducible repeat (first | apply Kd.R_alloc | apply Kd.R_drewN | apply Kd.R_drew)); exact HO115.out) hb); have n1_ := Aside0.mk (below_step (by repeat (first | (with_reducible first | exact HB.out | apply below_alloc | apply pw_below_drewN | apply below_drew1) | exact HB.out)) hb); clear HO115; clear HB; have HO115 := n0_; have HB := n1_; clear n0_ n1_; (try clear hb); (try clear hb2); (try clear hk); (try clear hi)) | (go_at_call 36; (with_reducible refine (lex_Break.calls k (⟨#[97, 13, 10]⟩ : ByteArray) 1 t117 _ A16.out).mono ?_); rintro e w' ⟨rfl, ⟨nd, rfl⟩⟩))
                          go_ret
                          exact ⟨by first | rfl | (simp [errW_none, errW_some] <;> rfl) | (simp [*, errW_none, errW_some] <;> rfl), by repeat (first | (with_reducible first | exact HB.out | apply below_alloc | apply pw_below_drewN | apply below_drew1) | exact HB.out)⟩
                      · rw [if_neg c15] at H
                        have c15b0 : (t116.toList == ([97, 44, 34, 97, 44, 98, 34, 10] : List UInt8)) = false := beq_eq_false_iff_ne.mpr c15
                        have c15b1 : (t116.toList != ([97, 44, 34, 97, 44, 98, 34, 10] : List UInt8)) = true := bne_iff_ne.mpr c15
                        obtain rfl := Option.some.inj H
                        go_enter Try.func33, Try.ntmps33
                        go_wp2_with (first | ((with_reducible refine gate_callee (f := 34) rfl ?_); refine goesL_ (some 14) rfl rfl Try.func34 (by kernel_rfl) rfl #[.string (⟨#[97, 98, 44, 99]⟩ : ByteArray), .int .i64 0, .int .u8 44] rfl (by (try simp only [List.map_toArray, List.map_cons, List.map_nil]); first | done | rfl | (simp only [List.length_drop, List.length_take]; rfl)) ?_; (with_reducible refine (lex_Field.calls (⟨#[97, 98, 44, 99]⟩ : ByteArray) 0 44 t101 t102 t103 t104 _ A1.out).mono ?_); rintro e w33 ⟨rfl, hb⟩; refine ⟨_, rfl, ?_⟩; have n0_ := Aside0.mk (below_step (by repeat (first | (with_reducible first | exact HB.out | apply below_alloc | apply pw_below_drewN | apply below_drew1) | exact HB.out)) hb); clear HB; have HB := n0_; clear n0_; (try clear hb); (try clear hb2); (try clear hk); (try clear hi)) | ((with_reducible refine gate_callee (f := 34) rfl ?_); refine goesL_ (some 20) rfl rfl Try.func34 (by kernel_rfl) rfl #[.string (⟨#[97, 98, 44, 99]⟩ : ByteArray), .int .i64 3, .int .u8 44] rfl (by (try simp only [List.map_toArray, List.map_cons, List.map_nil]); first | done | rfl | (simp only [List.length_drop, List.length_take]; rfl)) ?_; (with_reducible refine (lex_Field.calls (⟨#[97, 98, 44, 99]⟩ : ByteArray) 3 44 t105 t106 t107 t108 _ A2.out).mono ?_); rintro e w34 ⟨rfl, hb⟩; refine ⟨_, rfl, ?_⟩; have n0_ := Aside0.mk (below_step (by repeat (first | (with_reducible first | exact HB.out | apply below_alloc | apply pw_below_drewN | apply below_drew1) | exact HB.out)) hb); clear HB; have HB := n0_; clear n0_; (try clear hb); (try clear hb2); (try clear hk); (try clear hi)) | ((with_reducible refine gate_callee (f := 34) rfl ?_); refine goesL_ (some 26) rfl rfl Try.func34 (by kernel_rfl) rfl #[.string (⟨#[97, 34, 98]⟩ : ByteArray), .int .i64 0, .int .u8 44] rfl (by (try simp only [List.map_toArray, List.map_cons, List.map_nil]); first | done | rfl | (simp only [List.length_drop, List.length_take]; rfl)) ?_; (with_reducible refine (lex_Field.calls (⟨#[97, 34, 98]⟩ : ByteArray) 0 44 t109 t110 t111 t112 _ A3.out).mono ?_); rintro e w35 ⟨rfl, hb⟩; refine ⟨_, rfl, ?_⟩; have n0_ := Aside0.mk (below_step (by repeat (first | (with_reducible first | exact HB.out | apply below_alloc | apply pw_below_drewN | apply below_drew1) | exact HB.out)) hb); clear HB; have HB := n0_; clear n0_; (try clear hb); (try clear hb2); (try clear hk); (try clear hi)) | ((with_reducible refine gate_dst (N := 70) rfl ?_); (try (refine gate_guard (by rfl) ?_; dsimp only)); refine Kd.R_lit Kd.string _ 9 ?hg (N := 70) ?hd (xs := ([(⟨#[97]⟩ : ByteArray), (⟨#[97, 44, 98]⟩ : ByteArray)] : List ByteArray)) (inner := [.string (⟨#[97]⟩ : ByteArray), .string (⟨#[97, 44, 98]⟩ : ByteArray)]) (ok := fun _ => True) (okp := fun _ => True) ?hr ?hp (fun _ hk => hk) trivial (Below.refl _ _) (Nat.le_refl _) (by simp) ?_; (case hd => rfl); (case hg => rfl); (case hr => first | (go_simp; done) | (go_simp; rfl)); (case hp => exact (Reps.one (show Kd.M Kd.string _ _ _ (⟨#[97]⟩ : ByteArray) [.string (⟨#[97]⟩ : ByteArray)] from rfl) (Reps.one (show Kd.M Kd.string _ _ _ (⟨#[97, 44, 98]⟩ : ByteArray) [.string (⟨#[97, 44, 98]⟩ : ByteArray)] from rfl) (Reps.none _ _)))); intro v114 w36 ho37 hb hg_ hnew_; clear hg_ hnew_; (first | rw [← Ny113.out] at ho37 | (simp only [Int.reduceToNat] at ho37; rw [← Ny113.out] at ho37)); have n0_ := Aside0.mk (Kd.R_lower ho37 (below_size (by repeat (first | (with_reducible first | exact HB.out | apply below_alloc | apply pw_below_drewN | apply below_drew1) | exact HB.out)))); have n1_ := Aside0.mk (below_step (by repeat (first | (with_reducible first | exact HB.out | apply below_alloc | apply pw_below_drewN | apply below_drew1) | exact HB.out)) hb); clear HB; have HO115 := n0_; have HB := n1_; clear n0_ n1_; clear hb ho37; obtain ⟨Ao38, co38, eo38⟩ := Kd.R_slice HO115.out; subst eo38) | (go_at_call 38; (with_reducible refine (lex_Write.calls k _ _ y113 44 false t116 _ ?side1 ?side2 A14.out).mono ?_); (case side1 => repeat (first | exact (Kd.R_reads' HO115.out).2.2 | (with_reducible refine Kd.C_alloc ?_ _) | (with_reducible refine Kd.C_drewN ?_ _) | (with_reducible refine Kd.C_drew ?_))); (case side2 => exact (Kd.R_reads' HO115.out).2.1); rintro e w39 ⟨rfl, hb⟩; have n0_ := Aside0.mk (Kd.R_below (by (with_reducible repeat (first | apply Kd.R_alloc | apply Kd.R_drewN | apply Kd.R_drew)); exact HO115.out) hb); have n1_ := Aside0.mk (below_step (by repeat (first | (with_reducible first | exact HB.out | apply below_alloc | apply pw_below_drewN | apply below_drew1) | exact HB.out)) hb); clear HO115; clear HB; have HO115 := n0_; have HB := n1_; clear n0_ n1_; (try clear hb); (try clear hb2); (try clear hk); (try clear hi)))
                        go_ret
                        exact ⟨by first | rfl | (simp [errW_none, errW_some] <;> rfl) | (simp [*, errW_none, errW_some] <;> rfl), by repeat (first | (with_reducible first | exact HB.out | apply below_alloc | apply pw_below_drewN | apply below_drew1) | exact HB.out)⟩
                    · rw [if_neg c13] at H
                      have c13b0 : (t112 == 3) = false := beq_eq_false_iff_ne.mpr c13
                      have c13b1 : (t112 != 3) = true := bne_iff_ne.mpr c13
                      obtain rfl := Option.some.inj H
                      go_enter Try.func33, Try.ntmps33
                      go_wp2_with (first | ((with_reducible refine gate_callee (f := 34) rfl ?_); refine goesL_ (some 14) rfl rfl Try.func34 (by kernel_rfl) rfl #[.string (⟨#[97, 98, 44, 99]⟩ : ByteArray), .int .i64 0, .int .u8 44] rfl (by (try simp only [List.map_toArray, List.map_cons, List.map_nil]); first | done | rfl | (simp only [List.length_drop, List.length_take]; rfl)) ?_; (with_reducible refine (lex_Field.calls (⟨#[97, 98, 44, 99]⟩ : ByteArray) 0 44 t101 t102 t103 t104 _ A1.out).mono ?_); rintro e w40 ⟨rfl, hb⟩; refine ⟨_, rfl, ?_⟩; have n0_ := Aside0.mk (below_step (by repeat (first | (with_reducible first | exact HB.out | apply below_alloc | apply pw_below_drewN | apply below_drew1) | exact HB.out)) hb); clear HB; have HB := n0_; clear n0_; (try clear hb); (try clear hb2); (try clear hk); (try clear hi)) | ((with_reducible refine gate_callee (f := 34) rfl ?_); refine goesL_ (some 20) rfl rfl Try.func34 (by kernel_rfl) rfl #[.string (⟨#[97, 98, 44, 99]⟩ : ByteArray), .int .i64 3, .int .u8 44] rfl (by (try simp only [List.map_toArray, List.map_cons, List.map_nil]); first | done | rfl | (simp only [List.length_drop, List.length_take]; rfl)) ?_; (with_reducible refine (lex_Field.calls (⟨#[97, 98, 44, 99]⟩ : ByteArray) 3 44 t105 t106 t107 t108 _ A2.out).mono ?_); rintro e w41 ⟨rfl, hb⟩; refine ⟨_, rfl, ?_⟩; have n0_ := Aside0.mk (below_step (by repeat (first | (with_reducible first | exact HB.out | apply below_alloc | apply pw_below_drewN | apply below_drew1) | exact HB.out)) hb); clear HB; have HB := n0_; clear n0_; (try clear hb); (try clear hb2); (try clear hk); (try clear hi)) | ((with_reducible refine gate_callee (f := 34) rfl ?_); refine goesL_ (some 26) rfl rfl Try.func34 (by kernel_rfl) rfl #[.string (⟨#[97, 34, 98]⟩ : ByteArray), .int .i64 0, .int .u8 44] rfl (by (try simp only [List.map_toArray, List.map_cons, List.map_nil]); first | done | rfl | (simp only [List.length_drop, List.length_take]; rfl)) ?_; (with_reducible refine (lex_Field.calls (⟨#[97, 34, 98]⟩ : ByteArray) 0 44 t109 t110 t111 t112 _ A3.out).mono ?_); rintro e w42 ⟨rfl, hb⟩; refine ⟨_, rfl, ?_⟩; have n0_ := Aside0.mk (below_step (by repeat (first | (with_reducible first | exact HB.out | apply below_alloc | apply pw_below_drewN | apply below_drew1) | exact HB.out)) hb); clear HB; have HB := n0_; clear n0_; (try clear hb); (try clear hb2); (try clear hk); (try clear hi)))
                      go_ret
                      exact ⟨by first | rfl | (simp [errW_none, errW_some] <;> rfl) | (simp [*, errW_none, errW_some] <;> rfl), by repeat (first | (with_reducible first | exact HB.out | apply below_alloc | apply pw_below_drewN | apply below_drew1) | exact HB.out)⟩
                  · rw [if_neg c12] at H
                    have c12b0 : (t110 == 1) = false := beq_eq_false_iff_ne.mpr c12
                    have c12b1 : (t110 != 1) = true := bne_iff_ne.mpr c12
                    obtain rfl := Option.some.inj H
                    go_enter Try.func33, Try.ntmps33
                    go_wp2_with (first | ((with_reducible refine gate_callee (f := 34) rfl ?_); refine goesL_ (some 14) rfl rfl Try.func34 (by kernel_rfl) rfl #[.string (⟨#[97, 98, 44, 99]⟩ : ByteArray), .int .i64 0, .int .u8 44] rfl (by (try simp only [List.map_toArray, List.map_cons, List.map_nil]); first | done | rfl | (simp only [List.length_drop, List.length_take]; rfl)) ?_; (with_reducible refine (lex_Field.calls (⟨#[97, 98, 44, 99]⟩ : ByteArray) 0 44 t101 t102 t103 t104 _ A1.out).mono ?_); rintro e w43 ⟨rfl, hb⟩; refine ⟨_, rfl, ?_⟩; have n0_ := Aside0.mk (below_step (by repeat (first | (with_reducible first | exact HB.out | apply below_alloc | apply pw_below_drewN | apply below_drew1) | exact HB.out)) hb); clear HB; have HB := n0_; clear n0_; (try clear hb); (try clear hb2); (try clear hk); (try clear hi)) | ((with_reducible refine gate_callee (f := 34) rfl ?_); refine goesL_ (some 20) rfl rfl Try.func34 (by kernel_rfl) rfl #[.string (⟨#[97, 98, 44, 99]⟩ : ByteArray), .int .i64 3, .int .u8 44] rfl (by (try simp only [List.map_toArray, List.map_cons, List.map_nil]); first | done | rfl | (simp only [List.length_drop, List.length_take]; rfl)) ?_; (with_reducible refine (lex_Field.calls (⟨#[97, 98, 44, 99]⟩ : ByteArray) 3 44 t105 t106 t107 t108 _ A2.out).mono ?_); rintro e w44 ⟨rfl, hb⟩; refine ⟨_, rfl, ?_⟩; have n0_ := Aside0.mk (below_step (by repeat (first | (with_reducible first | exact HB.out | apply below_alloc | apply pw_below_drewN | apply below_drew1) | exact HB.out)) hb); clear HB; have HB := n0_; clear n0_; (try clear hb); (try clear hb2); (try clear hk); (try clear hi)) | ((with_reducible refine gate_callee (f := 34) rfl ?_); refine goesL_ (some 26) rfl rfl Try.func34 (by kernel_rfl) rfl #[.string (⟨#[97, 34, 98]⟩ : ByteArray), .int .i64 0, .int .u8 44] rfl (by (try simp only [List.map_toArray, List.map_cons, List.map_nil]); first | done | rfl | (simp only [List.length_drop, List.length_take]; rfl)) ?_; (with_reducible refine (lex_Field.calls (⟨#[97, 34, 98]⟩ : ByteArray) 0 44 t109 t110 t111 t112 _ A3.out).mono ?_); rintro e w45 ⟨rfl, hb⟩; refine ⟨_, rfl, ?_⟩; have n0_ := Aside0.mk (below_step (by repeat (first | (with_reducible first | exact HB.out | apply below_alloc | apply pw_below_drewN | apply below_drew1) | exact HB.out)) hb); clear HB; have HB := n0_; clear n0_; (try clear hb); (try clear hb2); (try clear hk); (try clear hi)))
                    go_ret
                    exact ⟨by first | rfl | (simp [errW_none, errW_some] <;> rfl) | (simp [*, errW_none, errW_some] <;> rfl), by repeat (first | (with_reducible first | exact HB.out | apply below_alloc | apply pw_below_drewN | apply below_drew1) | exact HB.out)⟩
                · rw [if_neg c11] at H
                  have c11b0 : (t108 == 0) = false := beq_eq_false_iff_ne.mpr c11
                  have c11b1 : (t108 != 0) = true := bne_iff_ne.mpr c11
                  obtain rfl := Option.some.inj H
                  go_enter Try.func33, Try.ntmps33
                  go_wp2_with (first | ((with_reducible refine gate_callee (f := 34) rfl ?_); refine goesL_ (some 14) rfl rfl Try.func34 (by kernel_rfl) rfl #[.string (⟨#[97, 98, 44, 99]⟩ : ByteArray), .int .i64 0, .int .u8 44] rfl (by (try simp only [List.map_toArray, List.map_cons, List.map_nil]); first | done | rfl | (simp only [List.length_drop, List.length_take]; rfl)) ?_; (with_reducible refine (lex_Field.calls (⟨#[97, 98, 44, 99]⟩ : ByteArray) 0 44 t101 t102 t103 t104 _ A1.out).mono ?_); rintro e w46 ⟨rfl, hb⟩; refine ⟨_, rfl, ?_⟩; have n0_ := Aside0.mk (below_step (by repeat (first | (with_reducible first | exact HB.out | apply below_alloc | apply pw_below_drewN | apply below_drew1) | exact HB.out)) hb); clear HB; have HB := n0_; clear n0_; (try clear hb); (try clear hb2); (try clear hk); (try clear hi)) | ((with_reducible refine gate_callee (f := 34) rfl ?_); refine goesL_ (some 20) rfl rfl Try.func34 (by kernel_rfl) rfl #[.string (⟨#[97, 98, 44, 99]⟩ : ByteArray), .int .i64 3, .int .u8 44] rfl (by (try simp only [List.map_toArray, List.map_cons, List.map_nil]); first | done | rfl | (simp only [List.length_drop, List.length_take]; rfl)) ?_; (with_reducible refine (lex_Field.calls (⟨#[97, 98, 44, 99]⟩ : ByteArray) 3 44 t105 t106 t107 t108 _ A2.out).mono ?_); rintro e w47 ⟨rfl, hb⟩; refine ⟨_, rfl, ?_⟩; have n0_ := Aside0.mk (below_step (by repeat (first | (with_reducible first | exact HB.out | apply below_alloc | apply pw_below_drewN | apply below_drew1) | exact HB.out)) hb); clear HB; have HB := n0_; clear n0_; (try clear hb); (try clear hb2); (try clear hk); (try clear hi)) | ((with_reducible refine gate_callee (f := 34) rfl ?_); refine goesL_ (some 26) rfl rfl Try.func34 (by kernel_rfl) rfl #[.string (⟨#[97, 34, 98]⟩ : ByteArray), .int .i64 0, .int .u8 44] rfl (by (try simp only [List.map_toArray, List.map_cons, List.map_nil]); first | done | rfl | (simp only [List.length_drop, List.length_take]; rfl)) ?_; (with_reducible refine (lex_Field.calls (⟨#[97, 34, 98]⟩ : ByteArray) 0 44 t109 t110 t111 t112 _ A3.out).mono ?_); rintro e w48 ⟨rfl, hb⟩; refine ⟨_, rfl, ?_⟩; have n0_ := Aside0.mk (below_step (by repeat (first | (with_reducible first | exact HB.out | apply below_alloc | apply pw_below_drewN | apply below_drew1) | exact HB.out)) hb); clear HB; have HB := n0_; clear n0_; (try clear hb); (try clear hb2); (try clear hk); (try clear hi)))
                  go_ret
                  exact ⟨by first | rfl | (simp [errW_none, errW_some] <;> rfl) | (simp [*, errW_none, errW_some] <;> rfl), by repeat (first | (with_reducible first | exact HB.out | apply below_alloc | apply pw_below_drewN | apply below_drew1) | exact HB.out)⟩
              · rw [if_neg c10] at H
                have c10b0 : (t107 == 3) = false := beq_eq_false_iff_ne.mpr c10
                have c10b1 : (t107 != 3) = true := bne_iff_ne.mpr c10
                obtain rfl := Option.some.inj H
                go_enter Try.func33, Try.ntmps33
                go_wp2_with (first | ((with_reducible refine gate_callee (f := 34) rfl ?_); refine goesL_ (some 14) rfl rfl Try.func34 (by kernel_rfl) rfl #[.string (⟨#[97, 98, 44, 99]⟩ : ByteArray), .int .i64 0, .int .u8 44] rfl (by (try simp only [List.map_toArray, List.map_cons, List.map_nil]); first | done | rfl | (simp only [List.length_drop, List.length_take]; rfl)) ?_; (with_reducible refine (lex_Field.calls (⟨#[97, 98, 44, 99]⟩ : ByteArray) 0 44 t101 t102 t103 t104 _ A1.out).mono ?_); rintro e w49 ⟨rfl, hb⟩; refine ⟨_, rfl, ?_⟩; have n0_ := Aside0.mk (below_step (by repeat (first | (with_reducible first | exact HB.out | apply below_alloc | apply pw_below_drewN | apply below_drew1) | exact HB.out)) hb); clear HB; have HB := n0_; clear n0_; (try clear hb); (try clear hb2); (try clear hk); (try clear hi)) | ((with_reducible refine gate_callee (f := 34) rfl ?_); refine goesL_ (some 20) rfl rfl Try.func34 (by kernel_rfl) rfl #[.string (⟨#[97, 98, 44, 99]⟩ : ByteArray), .int .i64 3, .int .u8 44] rfl (by (try simp only [List.map_toArray, List.map_cons, List.map_nil]); first | done | rfl | (simp only [List.length_drop, List.length_take]; rfl)) ?_; (with_reducible refine (lex_Field.calls (⟨#[97, 98, 44, 99]⟩ : ByteArray) 3 44 t105 t106 t107 t108 _ A2.out).mono ?_); rintro e w50 ⟨rfl, hb⟩; refine ⟨_, rfl, ?_⟩; have n0_ := Aside0.mk (below_step (by repeat (first | (with_reducible first | exact HB.out | apply below_alloc | apply pw_below_drewN | apply below_drew1) | exact HB.out)) hb); clear HB; have HB := n0_; clear n0_; (try clear hb); (try clear hb2); (try clear hk); (try clear hi)) | ((with_reducible refine gate_callee (f := 34) rfl ?_); refine goesL_ (some 26) rfl rfl Try.func34 (by kernel_rfl) rfl #[.string (⟨#[97, 34, 98]⟩ : ByteArray), .int .i64 0, .int .u8 44] rfl (by (try simp only [List.map_toArray, List.map_cons, List.map_nil]); first | done | rfl | (simp only [List.length_drop, List.length_take]; rfl)) ?_; (with_reducible refine (lex_Field.calls (⟨#[97, 34, 98]⟩ : ByteArray) 0 44 t109 t110 t111 t112 _ A3.out).mono ?_); rintro e w51 ⟨rfl, hb⟩; refine ⟨_, rfl, ?_⟩; have n0_ := Aside0.mk (below_step (by repeat (first | (with_reducible first | exact HB.out | apply below_alloc | apply pw_below_drewN | apply below_drew1) | exact HB.out)) hb); clear HB; have HB := n0_; clear n0_; (try clear hb); (try clear hb2); (try clear hk); (try clear hi)))
                go_ret
                exact ⟨by first | rfl | (simp [errW_none, errW_some] <;> rfl) | (simp [*, errW_none, errW_some] <;> rfl), by repeat (first | (with_reducible first | exact HB.out | apply below_alloc | apply pw_below_drewN | apply below_drew1) | exact HB.out)⟩
            · rw [if_neg c9] at H
              have c9b0 : (t106 == 4) = false := beq_eq_false_iff_ne.mpr c9
              have c9b1 : (t106 != 4) = true := bne_iff_ne.mpr c9
              obtain rfl := Option.some.inj H
              go_enter Try.func33, Try.ntmps33
              go_wp2_with (first | ((with_reducible refine gate_callee (f := 34) rfl ?_); refine goesL_ (some 14) rfl rfl Try.func34 (by kernel_rfl) rfl #[.string (⟨#[97, 98, 44, 99]⟩ : ByteArray), .int .i64 0, .int .u8 44] rfl (by (try simp only [List.map_toArray, List.map_cons, List.map_nil]); first | done | rfl | (simp only [List.length_drop, List.length_take]; rfl)) ?_; (with_reducible refine (lex_Field.calls (⟨#[97, 98, 44, 99]⟩ : ByteArray) 0 44 t101 t102 t103 t104 _ A1.out).mono ?_); rintro e w52 ⟨rfl, hb⟩; refine ⟨_, rfl, ?_⟩; have n0_ := Aside0.mk (below_step (by repeat (first | (with_reducible first | exact HB.out | apply below_alloc | apply pw_below_drewN | apply below_drew1) | exact HB.out)) hb); clear HB; have HB := n0_; clear n0_; (try clear hb); (try clear hb2); (try clear hk); (try clear hi)) | ((with_reducible refine gate_callee (f := 34) rfl ?_); refine goesL_ (some 20) rfl rfl Try.func34 (by kernel_rfl) rfl #[.string (⟨#[97, 98, 44, 99]⟩ : ByteArray), .int .i64 3, .int .u8 44] rfl (by (try simp only [List.map_toArray, List.map_cons, List.map_nil]); first | done | rfl | (simp only [List.length_drop, List.length_take]; rfl)) ?_; (with_reducible refine (lex_Field.calls (⟨#[97, 98, 44, 99]⟩ : ByteArray) 3 44 t105 t106 t107 t108 _ A2.out).mono ?_); rintro e w53 ⟨rfl, hb⟩; refine ⟨_, rfl, ?_⟩; have n0_ := Aside0.mk (below_step (by repeat (first | (with_reducible first | exact HB.out | apply below_alloc | apply pw_below_drewN | apply below_drew1) | exact HB.out)) hb); clear HB; have HB := n0_; clear n0_; (try clear hb); (try clear hb2); (try clear hk); (try clear hi)) | ((with_reducible refine gate_callee (f := 34) rfl ?_); refine goesL_ (some 26) rfl rfl Try.func34 (by kernel_rfl) rfl #[.string (⟨#[97, 34, 98]⟩ : ByteArray), .int .i64 0, .int .u8 44] rfl (by (try simp only [List.map_toArray, List.map_cons, List.map_nil]); first | done | rfl | (simp only [List.length_drop, List.length_take]; rfl)) ?_; (with_reducible refine (lex_Field.calls (⟨#[97, 34, 98]⟩ : ByteArray) 0 44 t109 t110 t111 t112 _ A3.out).mono ?_); rintro e w54 ⟨rfl, hb⟩; refine ⟨_, rfl, ?_⟩; have n0_ := Aside0.mk (below_step (by repeat (first | (with_reducible first | exact HB.out | apply below_alloc | apply pw_below_drewN | apply below_drew1) | exact HB.out)) hb); clear HB; have HB := n0_; clear n0_; (try clear hb); (try clear hb2); (try clear hk); (try clear hi)))
              go_ret
              exact ⟨by first | rfl | (simp [errW_none, errW_some] <;> rfl) | (simp [*, errW_none, errW_some] <;> rfl), by repeat (first | (with_reducible first | exact HB.out | apply below_alloc | apply pw_below_drewN | apply below_drew1) | exact HB.out)⟩
          · rw [if_neg c8] at H
            have c8b0 : (t105.toList == ([99] : List UInt8)) = false := beq_eq_false_iff_ne.mpr c8
            have c8b1 : (t105.toList != ([99] : List UInt8)) = true := bne_iff_ne.mpr c8
            obtain rfl := Option.some.inj H
            go_enter Try.func33, Try.ntmps33
            go_wp2_with (first | ((with_reducible refine gate_callee (f := 34) rfl ?_); refine goesL_ (some 14) rfl rfl Try.func34 (by kernel_rfl) rfl #[.string (⟨#[97, 98, 44, 99]⟩ : ByteArray), .int .i64 0, .int .u8 44] rfl (by (try simp only [List.map_toArray, List.map_cons, List.map_nil]); first | done | rfl | (simp only [List.length_drop, List.length_take]; rfl)) ?_; (with_reducible refine (lex_Field.calls (⟨#[97, 98, 44, 99]⟩ : ByteArray) 0 44 t101 t102 t103 t104 _ A1.out).mono ?_); rintro e w55 ⟨rfl, hb⟩; refine ⟨_, rfl, ?_⟩; have n0_ := Aside0.mk (below_step (by repeat (first | (with_reducible first | exact HB.out | apply below_alloc | apply pw_below_drewN | apply below_drew1) | exact HB.out)) hb); clear HB; have HB := n0_; clear n0_; (try clear hb); (try clear hb2); (try clear hk); (try clear hi)) | ((with_reducible refine gate_callee (f := 34) rfl ?_); refine goesL_ (some 20) rfl rfl Try.func34 (by kernel_rfl) rfl #[.string (⟨#[97, 98, 44, 99]⟩ : ByteArray), .int .i64 3, .int .u8 44] rfl (by (try simp only [List.map_toArray, List.map_cons, List.map_nil]); first | done | rfl | (simp only [List.length_drop, List.length_take]; rfl)) ?_; (with_reducible refine (lex_Field.calls (⟨#[97, 98, 44, 99]⟩ : ByteArray) 3 44 t105 t106 t107 t108 _ A2.out).mono ?_); rintro e w56 ⟨rfl, hb⟩; refine ⟨_, rfl, ?_⟩; have n0_ := Aside0.mk (below_step (by repeat (first | (with_reducible first | exact HB.out | apply below_alloc | apply pw_below_drewN | apply below_drew1) | exact HB.out)) hb); clear HB; have HB := n0_; clear n0_; (try clear hb); (try clear hb2); (try clear hk); (try clear hi)) | ((with_reducible refine gate_callee (f := 34) rfl ?_); refine goesL_ (some 26) rfl rfl Try.func34 (by kernel_rfl) rfl #[.string (⟨#[97, 34, 98]⟩ : ByteArray), .int .i64 0, .int .u8 44] rfl (by (try simp only [List.map_toArray, List.map_cons, List.map_nil]); first | done | rfl | (simp only [List.length_drop, List.length_take]; rfl)) ?_; (with_reducible refine (lex_Field.calls (⟨#[97, 34, 98]⟩ : ByteArray) 0 44 t109 t110 t111 t112 _ A3.out).mono ?_); rintro e w57 ⟨rfl, hb⟩; refine ⟨_, rfl, ?_⟩; have n0_ := Aside0.mk (below_step (by repeat (first | (with_reducible first | exact HB.out | apply below_alloc | apply pw_below_drewN | apply below_drew1) | exact HB.out)) hb); clear HB; have HB := n0_; clear n0_; (try clear hb); (try clear hb2); (try clear hk); (try clear hi)))
            go_ret
            exact ⟨by first | rfl | (simp [errW_none, errW_some] <;> rfl) | (simp [*, errW_none, errW_some] <;> rfl), by repeat (first | (with_reducible first | exact HB.out | apply below_alloc | apply pw_below_drewN | apply below_drew1) | exact HB.out)⟩
        · rw [if_neg c7] at H
          have c7b0 : (t104 == 0) = false := beq_eq_false_iff_ne.mpr c7
          have c7b1 : (t104 != 0) = true := bne_iff_ne.mpr c7
          obtain rfl := Option.some.inj H
          go_enter Try.func33, Try.ntmps33
          go_wp2_with (first | ((with_reducible refine gate_callee (f := 34) rfl ?_); refine goesL_ (some 14) rfl rfl Try.func34 (by kernel_rfl) rfl #[.string (⟨#[97, 98, 44, 99]⟩ : ByteArray), .int .i64 0, .int .u8 44] rfl (by (try simp only [List.map_toArray, List.map_cons, List.map_nil]); first | done | rfl | (simp only [List.length_drop, List.length_take]; rfl)) ?_; (with_reducible refine (lex_Field.calls (⟨#[97, 98, 44, 99]⟩ : ByteArray) 0 44 t101 t102 t103 t104 _ A1.out).mono ?_); rintro e w58 ⟨rfl, hb⟩; refine ⟨_, rfl, ?_⟩; have n0_ := Aside0.mk (below_step (by repeat (first | (with_reducible first | exact HB.out | apply below_alloc | apply pw_below_drewN | apply below_drew1) | exact HB.out)) hb); clear HB; have HB := n0_; clear n0_; (try clear hb); (try clear hb2); (try clear hk); (try clear hi)) | ((with_reducible refine gate_callee (f := 34) rfl ?_); refine goesL_ (some 20) rfl rfl Try.func34 (by kernel_rfl) rfl #[.string (⟨#[97, 98, 44, 99]⟩ : ByteArray), .int .i64 3, .int .u8 44] rfl (by (try simp only [List.map_toArray, List.map_cons, List.map_nil]); first | done | rfl | (simp only [List.length_drop, List.length_take]; rfl)) ?_; (with_reducible refine (lex_Field.calls (⟨#[97, 98, 44, 99]⟩ : ByteArray) 3 44 t105 t106 t107 t108 _ A2.out).mono ?_); rintro e w59 ⟨rfl, hb⟩; refine ⟨_, rfl, ?_⟩; have n0_ := Aside0.mk (below_step (by repeat (first | (with_reducible first | exact HB.out | apply below_alloc | apply pw_below_drewN | apply below_drew1) | exact HB.out)) hb); clear HB; have HB := n0_; clear n0_; (try clear hb); (try clear hb2); (try clear hk); (try clear hi)) | ((with_reducible refine gate_callee (f := 34) rfl ?_); refine goesL_ (some 26) rfl rfl Try.func34 (by kernel_rfl) rfl #[.string (⟨#[97, 34, 98]⟩ : ByteArray), .int .i64 0, .int .u8 44] rfl (by (try simp only [List.map_toArray, List.map_cons, List.map_nil]); first | done | rfl | (simp only [List.length_drop, List.length_take]; rfl)) ?_; (with_reducible refine (lex_Field.calls (⟨#[97, 34, 98]⟩ : ByteArray) 0 44 t109 t110 t111 t112 _ A3.out).mono ?_); rintro e w60 ⟨rfl, hb⟩; refine ⟨_, rfl, ?_⟩; have n0_ := Aside0.mk (below_step (by repeat (first | (with_reducible first | exact HB.out | apply below_alloc | apply pw_below_drewN | apply below_drew1) | exact HB.out)) hb); clear HB; have HB := n0_; clear n0_; (try clear hb); (try clear hb2); (try clear hk); (try clear hi)))
          go_ret
          exact ⟨by first | rfl | (simp [errW_none, errW_some] <;> rfl) | (simp [*, errW_none, errW_some] <;> rfl), by repeat (first | (with_reducible first | exact HB.out | apply below_alloc | apply pw_below_drewN | apply below_drew1) | exact HB.out)⟩
      · rw [if_neg c6] at H
        have c6b0 : (t103 == 1) = false := beq_eq_false_iff_ne.mpr c6
        have c6b1 : (t103 != 1) = true := bne_iff_ne.mpr c6
        obtain rfl := Option.some.inj H
        go_enter Try.func33, Try.ntmps33
        go_wp2_with (first | ((with_reducible refine gate_callee (f := 34) rfl ?_); refine goesL_ (some 14) rfl rfl Try.func34 (by kernel_rfl) rfl #[.string (⟨#[97, 98, 44, 99]⟩ : ByteArray), .int .i64 0, .int .u8 44] rfl (by (try simp only [List.map_toArray, List.map_cons, List.map_nil]); first | done | rfl | (simp only [List.length_drop, List.length_take]; rfl)) ?_; (with_reducible refine (lex_Field.calls (⟨#[97, 98, 44, 99]⟩ : ByteArray) 0 44 t101 t102 t103 t104 _ A1.out).mono ?_); rintro e w61 ⟨rfl, hb⟩; refine ⟨_, rfl, ?_⟩; have n0_ := Aside0.mk (below_step (by repeat (first | (with_reducible first | exact HB.out | apply below_alloc | apply pw_below_drewN | apply below_drew1) | exact HB.out)) hb); clear HB; have HB := n0_; clear n0_; (try clear hb); (try clear hb2); (try clear hk); (try clear hi)) | ((with_reducible refine gate_callee (f := 34) rfl ?_); refine goesL_ (some 20) rfl rfl Try.func34 (by kernel_rfl) rfl #[.string (⟨#[97, 98, 44, 99]⟩ : ByteArray), .int .i64 3, .int .u8 44] rfl (by (try simp only [List.map_toArray, List.map_cons, List.map_nil]); first | done | rfl | (simp only [List.length_drop, List.length_take]; rfl)) ?_; (with_reducible refine (lex_Field.calls (⟨#[97, 98, 44, 99]⟩ : ByteArray) 3 44 t105 t106 t107 t108 _ A2.out).mono ?_); rintro e w62 ⟨rfl, hb⟩; refine ⟨_, rfl, ?_⟩; have n0_ := Aside0.mk (below_step (by repeat (first | (with_reducible first | exact HB.out | apply below_alloc | apply pw_below_drewN | apply below_drew1) | exact HB.out)) hb); clear HB; have HB := n0_; clear n0_; (try clear hb); (try clear hb2); (try clear hk); (try clear hi)) | ((with_reducible refine gate_callee (f := 34) rfl ?_); refine goesL_ (some 26) rfl rfl Try.func34 (by kernel_rfl) rfl #[.string (⟨#[97, 34, 98]⟩ : ByteArray), .int .i64 0, .int .u8 44] rfl (by (try simp only [List.map_toArray, List.map_cons, List.map_nil]); first | done | rfl | (simp only [List.length_drop, List.length_take]; rfl)) ?_; (with_reducible refine (lex_Field.calls (⟨#[97, 34, 98]⟩ : ByteArray) 0 44 t109 t110 t111 t112 _ A3.out).mono ?_); rintro e w63 ⟨rfl, hb⟩; refine ⟨_, rfl, ?_⟩; have n0_ := Aside0.mk (below_step (by repeat (first | (with_reducible first | exact HB.out | apply below_alloc | apply pw_below_drewN | apply below_drew1) | exact HB.out)) hb); clear HB; have HB := n0_; clear n0_; (try clear hb); (try clear hb2); (try clear hk); (try clear hi)))
        go_ret
        exact ⟨by first | rfl | (simp [errW_none, errW_some] <;> rfl) | (simp [*, errW_none, errW_some] <;> rfl), by repeat (first | (with_reducible first | exact HB.out | apply below_alloc | apply pw_below_drewN | apply below_drew1) | exact HB.out)⟩
    · rw [if_neg c5] at H
      have c5b0 : (t102 == 3) = false := beq_eq_false_iff_ne.mpr c5
      have c5b1 : (t102 != 3) = true := bne_iff_ne.mpr c5
      obtain rfl := Option.some.inj H
      go_enter Try.func33, Try.ntmps33
      go_wp2_with (first | ((with_reducible refine gate_callee (f := 34) rfl ?_); refine goesL_ (some 14) rfl rfl Try.func34 (by kernel_rfl) rfl #[.string (⟨#[97, 98, 44, 99]⟩ : ByteArray), .int .i64 0, .int .u8 44] rfl (by (try simp only [List.map_toArray, List.map_cons, List.map_nil]); first | done | rfl | (simp only [List.length_drop, List.length_take]; rfl)) ?_; (with_reducible refine (lex_Field.calls (⟨#[97, 98, 44, 99]⟩ : ByteArray) 0 44 t101 t102 t103 t104 _ A1.out).mono ?_); rintro e w64 ⟨rfl, hb⟩; refine ⟨_, rfl, ?_⟩; have n0_ := Aside0.mk (below_step (by repeat (first | (with_reducible first | exact HB.out | apply below_alloc | apply pw_below_drewN | apply below_drew1) | exact HB.out)) hb); clear HB; have HB := n0_; clear n0_; (try clear hb); (try clear hb2); (try clear hk); (try clear hi)) | ((with_reducible refine gate_callee (f := 34) rfl ?_); refine goesL_ (some 20) rfl rfl Try.func34 (by kernel_rfl) rfl #[.string (⟨#[97, 98, 44, 99]⟩ : ByteArray), .int .i64 3, .int .u8 44] rfl (by (try simp only [List.map_toArray, List.map_cons, List.map_nil]); first | done | rfl | (simp only [List.length_drop, List.length_take]; rfl)) ?_; (with_reducible refine (lex_Field.calls (⟨#[97, 98, 44, 99]⟩ : ByteArray) 3 44 t105 t106 t107 t108 _ A2.out).mono ?_); rintro e w65 ⟨rfl, hb⟩; refine ⟨_, rfl, ?_⟩; have n0_ := Aside0.mk (below_step (by repeat (first | (with_reducible first | exact HB.out | apply below_alloc | apply pw_below_drewN | apply below_drew1) | exact HB.out)) hb); clear HB; have HB := n0_; clear n0_; (try clear hb); (try clear hb2); (try clear hk); (try clear hi)) | ((with_reducible refine gate_callee (f := 34) rfl ?_); refine goesL_ (some 26) rfl rfl Try.func34 (by kernel_rfl) rfl #[.string (⟨#[97, 34, 98]⟩ : ByteArray), .int .i64 0, .int .u8 44] rfl (by (try simp only [List.map_toArray, List.map_cons, List.map_nil]); first | done | rfl | (simp only [List.length_drop, List.length_take]; rfl)) ?_; (with_reducible refine (lex_Field.calls (⟨#[97, 34, 98]⟩ : ByteArray) 0 44 t109 t110 t111 t112 _ A3.out).mono ?_); rintro e w66 ⟨rfl, hb⟩; refine ⟨_, rfl, ?_⟩; have n0_ := Aside0.mk (below_step (by repeat (first | (with_reducible first | exact HB.out | apply below_alloc | apply pw_below_drewN | apply below_drew1) | exact HB.out)) hb); clear HB; have HB := n0_; clear n0_; (try clear hb); (try clear hb2); (try clear hk); (try clear hi)))
      go_ret
      exact ⟨by first | rfl | (simp [errW_none, errW_some] <;> rfl) | (simp [*, errW_none, errW_some] <;> rfl), by repeat (first | (with_reducible first | exact HB.out | apply below_alloc | apply pw_below_drewN | apply below_drew1) | exact HB.out)⟩
  · rw [if_neg c4] at H
    have c4b0 : (t101.toList == ([97, 98] : List UInt8)) = false := beq_eq_false_iff_ne.mpr c4
    have c4b1 : (t101.toList != ([97, 98] : List UInt8)) = true := bne_iff_ne.mpr c4
    obtain rfl := Option.some.inj H
    go_enter Try.func33, Try.ntmps33
    go_wp2_with (first | ((with_reducible refine gate_callee (f := 34) rfl ?_); refine goesL_ (some 14) rfl rfl Try.func34 (by kernel_rfl) rfl #[.string (⟨#[97, 98, 44, 99]⟩ : ByteArray), .int .i64 0, .int .u8 44] rfl (by (try simp only [List.map_toArray, List.map_cons, List.map_nil]); first | done | rfl | (simp only [List.length_drop, List.length_take]; rfl)) ?_; (with_reducible refine (lex_Field.calls (⟨#[97, 98, 44, 99]⟩ : ByteArray) 0 44 t101 t102 t103 t104 _ A1.out).mono ?_); rintro e w67 ⟨rfl, hb⟩; refine ⟨_, rfl, ?_⟩; have n0_ := Aside0.mk (below_step (by repeat (first | (with_reducible first | exact HB.out | apply below_alloc | apply pw_below_drewN | apply below_drew1) | exact HB.out)) hb); clear HB; have HB := n0_; clear n0_; (try clear hb); (try clear hb2); (try clear hk); (try clear hi)) | ((with_reducible refine gate_callee (f := 34) rfl ?_); refine goesL_ (some 20) rfl rfl Try.func34 (by kernel_rfl) rfl #[.string (⟨#[97, 98, 44, 99]⟩ : ByteArray), .int .i64 3, .int .u8 44] rfl (by (try simp only [List.map_toArray, List.map_cons, List.map_nil]); first | done | rfl | (simp only [List.length_drop, List.length_take]; rfl)) ?_; (with_reducible refine (lex_Field.calls (⟨#[97, 98, 44, 99]⟩ : ByteArray) 3 44 t105 t106 t107 t108 _ A2.out).mono ?_); rintro e w68 ⟨rfl, hb⟩; refine ⟨_, rfl, ?_⟩; have n0_ := Aside0.mk (below_step (by repeat (first | (with_reducible first | exact HB.out | apply below_alloc | apply pw_below_drewN | apply below_drew1) | exact HB.out)) hb); clear HB; have HB := n0_; clear n0_; (try clear hb); (try clear hb2); (try clear hk); (try clear hi)) | ((with_reducible refine gate_callee (f := 34) rfl ?_); refine goesL_ (some 26) rfl rfl Try.func34 (by kernel_rfl) rfl #[.string (⟨#[97, 34, 98]⟩ : ByteArray), .int .i64 0, .int .u8 44] rfl (by (try simp only [List.map_toArray, List.map_cons, List.map_nil]); first | done | rfl | (simp only [List.length_drop, List.length_take]; rfl)) ?_; (with_reducible refine (lex_Field.calls (⟨#[97, 34, 98]⟩ : ByteArray) 0 44 t109 t110 t111 t112 _ A3.out).mono ?_); rintro e w69 ⟨rfl, hb⟩; refine ⟨_, rfl, ?_⟩; have n0_ := Aside0.mk (below_step (by repeat (first | (with_reducible first | exact HB.out | apply below_alloc | apply pw_below_drewN | apply below_drew1) | exact HB.out)) hb); clear HB; have HB := n0_; clear n0_; (try clear hb); (try clear hb2); (try clear hk); (try clear hi)))
    go_ret
    exact ⟨by first | rfl | (simp [errW_none, errW_some] <;> rfl) | (simp [*, errW_none, errW_some] <;> rfl), by repeat (first | (with_reducible first | exact HB.out | apply below_alloc | apply pw_below_drewN | apply below_drew1) | exact HB.out)⟩

-- BY HAND: function 35 (tartanref02_Field)

-- BY HAND: function 37 (tartanref02_Break)

end Go.Proofs.Ytggodagdfldndaa.Q.L.M

namespace Go.Proofs.Ytggodagdfldndaa.Q.L.Z
open Go.RowKit Go.Proofs.YtggodagdfldndaaW.PrintWords Go.Proofs.YtggodagdfldndaaW.PrintLast Go.Proofs.YtggodagdfldndaaW.PrintMore
attribute [local go_sem] max2_int min2_int max_two min_two max_three min_three max_four min_four   -- for this text's walks alone
set_option linter.unusedVariables false
set_option linter.unusedSimpArgs false



def errW : Option Int → Value
  | none => .nilIface
  | some c => .iface 0 (.int .i64 c)
theorem errW_none : errW none = .nilIface := rfl
theorem errW_some (c : Int) : errW (some c) = .iface 0 (.int .i64 c) := rfl

theorem info9 : (Try.prog.info? 9).map (fun i => (i.zero, i.size, i.bytes)) = some (some (.string ⟨#[]⟩), 1, 16) := by kernel_rfl
theorem info38 : (Try.prog.info? 38).map (fun i => (i.zero, i.size, i.bytes)) = some (some (.slice none 0 0), 1, 24) := by kernel_rfl
-- the values' own types
def rd_L1 (xs : List (List ByteArray)) (i : Int) : (List ByteArray) := xs.getD i.toNat ([] : List ByteArray)
theorem at_L1 {w : World} {A : Option Addr} {n : Nat} {xs : List (List ByteArray)} (h : Kd.C (Kd.slice 9 Kd.string) w A n xs) (i : Int) (h0 : 0 ≤ i) (h1 : i < n) : ∃ ad A0 c0, A = some ad ∧ w.cell? (ad.add i.toNat) = some (.slice A0 (rd_L1 xs i).length c0) ∧ (rd_L1 xs i).length ≤ c0 ∧ Kd.string.C w A0 (rd_L1 xs i).length (rd_L1 xs i) := by
  obtain ⟨ad, c, e, _, hK, hc0⟩ := Kd.C_get h ([] : List ByteArray) i h0 h1
  have hc : ∀ j u, c[j]? = some u → w.cell? (ad.add (i.toNat * 1 + j)) = some u := hc0
  obtain ⟨A0, c0, rfl, l0, g0⟩ := hK
  exact ⟨ad, A0, c0, e, by have hq := hc 0 _ rfl; rwa [Nat.mul_one, Nat.add_zero] at hq, l0, g0⟩

end Go.Proofs.Ytggodagdfldndaa.Q.L.Z
