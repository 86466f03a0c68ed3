/- arrow.Arrow walked: a range over an iterator without an end, left by a break. -/
import Derived.Test.YtggodagdfldndaaDoorA
import Derived.Test.YtggodagdfldndaaDoorR
import Derived.Scope
import Derived.WalkMore
namespace Go.Proofs.YtggodagdfldndaaDoor
open Go.RowKit Go.Shelf Go.Proofs.YtggodagdfldndaaDoorW.PrintWords Go.Proofs.YtggodagdfldndaaDoorW.PrintLast Go.Proofs.YtggodagdfldndaaDoorW.PrintMore
attribute [local go_sem] Oper.semAt_some
set_option maxHeartbeats 1000000 in
set_option maxRecDepth 100000 in
theorem arrows19 (w : World) : Calls Tryd.prog 19 #[] w fun e w' => e = .returned (.func (.func 26) #[] #[]) ∧ w' = w := by
  go_enter Tryd.func19, Tryd.ntmps19
  go_wp2
  go_ret
  exact ⟨rfl, rfl⟩
def sizeV (v : Value) : Nat := match v with | .string s => s.size | _ => 0
theorem arrow_next (n : Nat) : (⟨#[45]⟩ : ByteArray) ++ ofBs (arrowB n) = ofBs (arrowB (n + 1)) := by
  rw [show (⟨#[45]⟩ : ByteArray) = ofBs [45] from rfl, ← ofBs_append]; rfl
set_option maxHeartbeats 2000000 in
set_option maxRecDepth 100000 in
theorem arrows_stops (w : World) : SeqStopsN Fence.wide 11 Tryd.prog 26 #[] (fun x : ByteArray => #[.string x]) (fun _ _ => True) (fun pre x => x = ofBs (arrowB (pre.length + 1))) (fun _ => False) (fun _ => True) 10000 w := fun l J Jx W hW hJ hJx hJN hY h0 => by
  refine callsIn_of_wp Tryd.func26 rfl trivial ?_ rfl
  simp only [Tryd.ntmps26, List.size_toArray, List.length_cons, List.length_nil, Nat.reduceAdd, Nat.reduceSub, Array.replicate_succ, Array.replicate_zero, List.push_toArray, List.append_toArray, List.nil_append, List.cons_append]
  have HY := Lib.hid hY
  have HN := Lib.hid hJN
  clear hY hJN
  gi_wp2
  gi_loopw [2] (fun sv wr => ∃ pre : List ByteArray, sv = .string (ofBs (arrowB (pre.length + 1))) ∧ J pre wr) (fun sv _ => 20000 - sizeV sv)
  case atStart => exact ⟨[], rfl, h0⟩
  case round =>
    obtain ⟨pre, rfl, hj⟩ := hrel
    have hn := HN.out pre wr hj
    obtain ⟨X, hX⟩ : ∃ X, X = ofBs (arrowB (pre.length + 1)) := ⟨_, rfl⟩
    have hXs : X.size = pre.length + 2 := by rw [hX, size_ofBs, arrowB_length]
    obtain ⟨fn, tmps, assign, body, hy, hR⟩ := HY.out pre X wr hj hX
    rw [← hX]
    have HX := Lib.hid hX
    clear hX
    gi_wp2
    refine hR.mono ?_
    rintro e W' (⟨rfl, hJ', _⟩ | ⟨rfl, hx'⟩)
    · have hn2 := HN.out _ W' hJ'
      rw [List.length_append, List.length_singleton] at hn2
      clear hy hR
      gi_wp2
      go_roundw
      case rel => exact ⟨pre ++ [X], by rw [HX.out, arrow_next, List.length_append]; rfl, hJ'⟩
      case measure =>
        have e1 : ((⟨#[45]⟩ : ByteArray) ++ X).size = X.size + 1 := by rw [HX.out, arrow_next, size_ofBs, size_ofBs, arrowB_length, arrowB_length]
        show 20000 - ((⟨#[45]⟩ : ByteArray) ++ X).size < 20000 - X.size
        omega
    · clear hy hR
      gi_wp2
      go_end0
      exact ⟨⟨_, rfl⟩, .inr ⟨_, trivial, hx'⟩⟩
theorem boxedOwn {W W' : World} {row : Option Nat} {B : Nat} {t : TypeId} {v : Value} (h : Boxed W B t v) (hg : W.grownBy W' row) (hr : ∀ r, row = some r → ∃ o : Obj, W.heap[r]? = some o ∧ o.isCells = false) : Boxed W' B t v := (grownBy_keeps_cells hg hr h rfl).trans h
theorem boxedFar {W : World} {B : Nat} {t : TypeId} {v : Value} (h : Boxed W B t v) {p : Addr} (hne : B ≠ p.block) (u : Value) : Boxed (W.setCell p u) B t v := (Below.heap_setCell W p u B hne).trans h
/-- No arrow so far was in no cell. -/
def AInv (g0 : Nat) (A : Option Addr) (c : Nat) (l : List ByteArray) (w : World) (pre : List ByteArray) (W : World) : Prop :=
  Boxed W g0 22 (.slice A l.length c) ∧ Boxed W (g0 + 1) 9 (.string ⟨#[]⟩) ∧ (∀ j, 1 ≤ j → j < pre.length + 1 → l.any (has (arrowB j)) = true) ∧ g0 + 2 ≤ W.heap.size ∧ Below g0 w W
/-- One was. -/
def AStop (g0 : Nat) (A : Option Addr) (c : Nat) (l : List ByteArray) (w : World) (cd : Code) (pre : List ByteArray) (W : World) : Prop :=
  cd = .exit 0 ∧ ∃ n, 1 ≤ n ∧ Boxed W (g0 + 1) 9 (.string (ofBs (arrowB n))) ∧ (∀ j, 1 ≤ j → j < n → l.any (has (arrowB j)) = true) ∧ l.any (has (arrowB n)) = false ∧ g0 + 2 ≤ W.heap.size ∧ Below g0 w W
theorem aInv_own (g0 B : Nat) (A : Option Addr) (c : Nat) (l : List ByteArray) (w : World) (hB : g0 ≤ B) (hw : w.heap.size = g0) : OwnFrom B (AInv g0 A c l w) := by
  intro pre W W' row h hg hr
  obtain ⟨h1, h2, h3, h4, h5⟩ := h
  have hr2 : ∀ r, row = some r → ∃ o : Obj, W.heap[r]? = some o ∧ o.isCells = false := fun r e => (hr r e).2
  exact ⟨boxedOwn h1 hg hr2, boxedOwn h2 hg hr2, h3, by have := hg.size; omega, (ownFrom_below (β := Unit) (n₀ := g0) (B := B) (w₀ := w) (by omega) hB) () W W' row h5 hg hr⟩
theorem aStop_own (g0 B : Nat) (A : Option Addr) (c : Nat) (l : List ByteArray) (w : World) (hB : g0 ≤ B) (hw : w.heap.size = g0) (cd : Code) : OwnFrom B (AStop g0 A c l w cd) := by
  intro pre W W' row h hg hr
  obtain ⟨h0, n, h1, h2, h3, h4, h5, h6⟩ := h
  have hr2 : ∀ r, row = some r → ∃ o : Obj, W.heap[r]? = some o ∧ o.isCells = false := fun r e => (hr r e).2
  exact ⟨h0, n, h1, boxedOwn h2 hg hr2, h3, h4, by have := hg.size; omega, (ownFrom_below (β := Unit) (n₀ := g0) (B := B) (w₀ := w) (by omega) hB) () W W' row h6 hg hr⟩
set_option maxHeartbeats 4000000 in
set_option maxRecDepth 100000 in
theorem arrow_walk (A : Option Addr) (c : Nat) (l : List ByteArray) (w : World) (hr : Kd.C Kd.string w A l.length l) (hM : MaxOk w) (hf : Few l) :
    Calls Tryd.prog 11 #[.slice A l.length c] w fun e w' => e = .returned (.string (ofBs (arrowB (arrowN l)))) ∧ Below w.heap.size w w' := by
  have HR := Lib.hid hr
  have HM := Lib.hid hM
  have HF := Lib.hid hf
  clear hr hM hf
  refine (callsIn_wide (n := 12)).1 ?_
  refine callsIn_of_wp_marks Tryd.func11 rfl trivial ?_ rfl
  simp only [Tryd.ntmps11, List.size_toArray, List.length_cons, List.length_nil, Nat.reduceAdd, Nat.reduceSub, Array.replicate_succ, Array.replicate_zero, List.push_toArray, List.append_toArray, List.nil_append, List.cons_append]
  gi_wp2
  refine wpIn_wide.2 (wp_scope_straight ((wpIn_wide (n := 12)).1 ?_))
  gi_wp2
  refine wpIn_label ?_
  gi_wp2_with (refine ⟨trivial, ?_⟩; gi_at_call 19; refine (callsIn_wide.2 (arrows19 _)).mono ?_; rintro e w' ⟨rfl, rfl⟩)
  obtain ⟨W0, hW0⟩ : ∃ W0, W0 = (w.alloc (Obj.cells #[Value.slice A l.length c] 22)).alloc (Obj.cells #[Value.string ⟨#[]⟩] 9) := ⟨_, rfl⟩
  rw [← hW0]
  have hinv : AInv w.heap.size A c l w [] W0 := by
    rw [hW0]
    have e1 := Boxed.new (w.alloc (Obj.cells #[Value.slice A l.length c] 22)) 9 (.string ⟨#[]⟩)
    rw [World.size_alloc] at e1
    exact ⟨(Boxed.new w 22 _).alloc _, e1, fun j h1 h2 => by simp at h2; omega, by simp, ((Below.refl _ w).alloc (Nat.le_refl _) _).alloc (by simp) _⟩
  have hsz : W0.heap.size = w.heap.size + 2 := by rw [hW0]; simp
  clear hW0
  obtain ⟨g0, hg0⟩ : ∃ g0, g0 = w.heap.size := ⟨_, rfl⟩
  rw [← hg0] at hinv hsz ⊢
  have HG0 := Lib.hid hg0
  clear hg0
  refine wpIn_rangeFunc_next rfl (by omega) (gf := 26) (lb := #[]) rfl trivial (enters_of Tryd.func26 (by kernel_rfl) rfl)
    (arrows_stops W0) (fun _ _ => trivial) (fun _ _ _ _ _ _ _ _ => trivial) (Below.refl _ _) (fun _ => rfl)
    (AInv g0 A c l w) (AStop g0 A c l w) (aInv_own g0 _ A c l w (by omega) HG0.out.symm) (fun cd => aStop_own g0 _ A c l w (by omega) HG0.out.symm cd) hinv ?hN
    (fun pre x a1 W => a1 = { tmps := #[.slice A l.length c, .pointer (some ⟨g0, 0, none⟩), .string ⟨#[]⟩, .pointer (some ⟨g0 + 1, 0, none⟩), .string x, .func (.func 26) #[] #[], .string x, undef, undef, undef, undef, undef, undef, undef], defers := [] } ∧ AInv g0 A c l w pre W ∧ x = ofBs (arrowB (pre.length + 1))) ?hM ?assign ?body ?done ?stop
  case hN =>
    rintro pre W ⟨_, _, h3, _⟩
    rcases Nat.eq_zero_or_pos pre.length with e | e
    · omega
    · have := any_le HF.out (h3 pre.length e (by omega))
      omega
  case hM =>
    rintro pre x a1 u W W' row ⟨h1, h2, h3⟩ hg hr
    exact ⟨h1, aInv_own g0 W0.heap.size A c l w (by omega) HG0.out.symm pre W W' row h2 hg hr, h3⟩
  case assign =>
    intro l' pre x W K hI hR hK
    have HK := Lib.hid hK
    have HI := Lib.hid hI
    have HX := Lib.hid hR
    clear hK hI hR
    gi_wp2
    exact HK.out _ _ (KeepsOthers.refl W) trivial ⟨rfl, HI.out, HX.out⟩
  case body =>
    rintro l' pre x a1 W ⟨rfl, ⟨h1, h2, h3, h4, h5⟩, hx⟩
    have hB : Below w.heap.size w W := by rw [← HG0.out]; exact h5
    have hct := contains20 A c l x W (Kd.C_below HR.out hB) (HM.out.below hB) HF.out
    have hxb : toBs x = arrowB (pre.length + 1) := by rw [hx, toBs_ofBs]
    rw [hxb] at hct
    have c1 := h1.cell
    have c2 := h2.cell
    have f2 := h2.frozen
    have H3 := Lib.hid h3
    have H5 := Lib.hid h5
    have HX := Lib.hid hx
    clear h3 h5 hx hB hxb
    cases hd : l.any (has (arrowB (pre.length + 1))) with
    | true =>
      rw [hd] at hct
      have HC := Lib.hid hct
      have HD := Lib.hid hd
      clear hct hd
      gi_wp2_with (refine ⟨trivial, ?_⟩; gi_at_call 20; refine (CallsIn.inRound l' (callsIn_wide.2 HC.out)).mono ?_; rintro e w' ⟨rfl, ⟨nd, rfl⟩⟩)
      refine ⟨⟨Nat.le_refl _, fun _ _ h _ => h⟩, trivial, h1, h2, fun j j1 j2 => ?_, h4, pw_below_drewN H5.out nd⟩
      rw [List.length_append, List.length_singleton] at j2
      by_cases e : j = pre.length + 1
      · rw [e]; exact HD.out
      · exact H3.out j j1 (by omega)
    | false =>
      rw [hd] at hct
      have HC := Lib.hid hct
      have HD := Lib.hid hd
      clear hct hd
      gi_wp2_with (refine ⟨trivial, ?_⟩; gi_at_call 20; refine (CallsIn.inRound l' (callsIn_wide.2 HC.out)).mono ?_; rintro e w' ⟨rfl, ⟨nd, rfl⟩⟩)
      refine ⟨(show KeepsOthers W (W.drewN nd) from ⟨Nat.le_refl _, fun _ _ h _ => h⟩).trans (KeepsOthers.setCell _ _ _), rfl, pre.length + 1, by omega, ?_, fun j j1 j2 => H3.out j j1 j2, HD.out, by simpa using h4, (pw_below_drewN H5.out nd).setCell (by show g0 ≤ g0 + 1; omega) _⟩
      rw [← HX.out]
      exact (show Boxed (W.drewN nd) (g0 + 1) 9 (.string ⟨#[]⟩) from h2).set _
  case done =>
    rintro D xs W hD hS
    exact hS.elim
  case stop =>
    rintro D cd pre W hD _ hI hK
    obtain ⟨rfl, n, n1, h2, h3, h4, h5, h6⟩ := hI
    have c2 := h2.cell
    have H3 := Lib.hid h3
    have H4 := Lib.hid h4
    have H6 := Lib.hid h6
    clear h3 h4 h6
    have hn : arrowN l = n := by
      refine shortest_is l 20000 1 n n1 ?_ H3.out H4.out
      rcases Nat.lt_or_ge 1 n with e | e
      · have := any_le HF.out (H3.out (n - 1) (by omega) (by omega))
        omega
      · omega
    have HNN := Lib.hid hn
    clear hn
    gi_wp2
    rw [Exit.noGoto_ret]
    refine ⟨by simp, .inl ⟨_, _, rfl, run_takeDeferred hK, ?_⟩⟩
    refine ⟨_, results_tmp rfl _ _ _, by rw [HNN.out]; rfl, ?_⟩
    rw [← HG0.out]
    exact H6.out.trans (belowK_b (w := w) (by rw [HG0.out]; exact Nat.le_refl _) W D _ _ (by rw [← HG0.out]; omega) hK rfl rfl)
/-- arrow.Arrow, as a plain function. -/
def Q.arrow_Arrow.f (l0 : List ByteArray) : Option ByteArray := if l0.all (fun x => decide (x.size ≤ 10000)) = true then some (ofBs (arrowB (arrowN l0))) else none
theorem Q.arrow_Arrow.calls (A0 : Option Addr) (c0 : Nat) (l0 : List ByteArray) (r : ByteArray) (w : World) (hr0 : Kd.C Kd.string w A0 l0.length l0) (hc0 : l0.length ≤ c0) (hM : MaxOk w) (h : Q.arrow_Arrow.f l0 = some r) :
    Calls Tryd.prog 11 #[.slice A0 l0.length c0] w fun e w' => e = .returned (.string r) ∧ Below w.heap.size w w' := by
  unfold Q.arrow_Arrow.f at h
  split at h
  · rename_i hs
    obtain rfl := Option.some.inj h
    exact arrow_walk A0 c0 l0 w hr0 hM (fun x hx => of_decide_eq_true (List.all_eq_true.1 hs x hx))
  · cases h
end Go.Proofs.YtggodagdfldndaaDoor
