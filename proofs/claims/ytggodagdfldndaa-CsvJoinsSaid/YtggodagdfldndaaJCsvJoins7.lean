/- The law CsvJoins of the given statements: for every input it answers true, and its arguments read afterwards as before: Of two texts that are printed, one behind the other, come the records of both. Conditions: none but those of the given statement itself. -/
import Derived.Test.YtggodagdfldndaaJCsvJoins5
import Derived.Test.YtggodagdfldndaaJCsvJoins6
import Derived.Test.YtggodagdfldndaaJCsvJoins4
import Derived.Test.YtggodagdfldndaaJCsvJoins2
import Derived.Test.YtggodagdfldndaaRows
import Derived.ProofKit
import Derived.SliceStrings
import Derived.Deep.Slices
import Derived.Test.YtggodagdfldndaaWMore
import Derived.WalkKit
import Derived.OpenShut
import Derived.ShutString
import Derived.ChangeOld
import Derived.Below
import Derived.SizedLaws
set_option linter.unusedVariables false
set_option linter.unusedSimpArgs false
/-! Walks of Go functions of this seat against plain Lean functions, written by a program of this session (the kit's print, with hand-proved contracts for what it does not take). Lean checks them. -/
namespace Go.Proofs.Ytggodagdfldndaa.Q.L.Z
open Go.RowKit Go.Proofs.YtggodagdfldndaaW.PrintWords Go.Proofs.YtggodagdfldndaaW.PrintLast Go.Proofs.YtggodagdfldndaaW.PrintMore
attribute [local go_sem] max2_int min2_int max_two min_two max_three min_three max_four min_four   -- for this text's walks alone
set_option linter.unusedVariables false
set_option linter.unusedSimpArgs false

/-! ### tartanlaw03_CsvJoins: function 16 -/
mutual
def tartanlaw03_CsvJoins.j0 : Nat → List (List ByteArray) → List (List ByteArray) → Int → Bool → Bool → Bool → Bool → Option (Bool)
  | 0, _, _, _, _, _, _, _ => none
  | k + 1, x0, x1, x2, x3, x4, x11, x12 => if x12 = true then ((csv_Print.f x0 x2 x3).bind fun bt210 => ((csv_Print.f x1 x2 x4).bind fun bt212 => (if bt210.2 = 0 then (tartanlaw03_CsvJoins.j1 k x0 x1 x2 x11 bt210.1 bt212.1 (bt212.2 != 0)) else (tartanlaw03_CsvJoins.j1 k x0 x1 x2 x11 bt210.1 bt212.1 true)))) else (some x11)
def tartanlaw03_CsvJoins.j1 : Nat → List (List ByteArray) → List (List ByteArray) → Int → Bool → ByteArray → ByteArray → Bool → Option (Bool)
  | 0, _, _, _, _, _, _, _ => none
  | k + 1, x0, x1, x2, x11, x13, x15, x52 => if x52 = true then (some x11) else (if x13.size + x15.size ≤ 9223372036854775807 then ((csv_Parse.f (x13 ++ x15) x2).bind fun bt214 => ((some (([] : List (List ByteArray)) : List (List ByteArray))).bind fun y219 => (if y219.length + x0.length < 5864062014805 then ((some (y219 ++ x0 : List (List ByteArray))).bind fun y222 => (if y222.length + x1.length < 5864062014805 then ((tartanref03_Same.f k bt214.1 (y222 ++ x1)).bind fun t228 => (if x11 = true then (if bt214.2.2 = 0 then (if bt214.2.1 = 0 then (some t228) else (some false)) else (some false)) else (some false))) else (none))) else (none)))) else (none))
end
def tartanlaw03_CsvJoins.f (k : Nat) (l0 : List (List ByteArray)) (l1 : List (List ByteArray)) (a2 : Int) (a3 : Bool) (a4 : Bool) : Option (Bool) := (tartanlaw03_works.f).bind fun t207 => (if t207 = true then ((tartanref03_Few.f k l0).bind fun t208 => (if t208 = true then ((tartanref03_Few.f k l1).bind fun t209 => (tartanlaw03_CsvJoins.j0 k l0 l1 a2 a3 a4 t207 t209)) else (tartanlaw03_CsvJoins.j0 k l0 l1 a2 a3 a4 t207 false))) else (some false))
theorem tartanlaw03_CsvJoins.mono_l : ∀ k, (∀ y0 y1 y2 y3 y4 y5 y6, LeO (tartanlaw03_CsvJoins.j0 k y0 y1 y2 y3 y4 y5 y6) (tartanlaw03_CsvJoins.j0 (k + 1) y0 y1 y2 y3 y4 y5 y6)) ∧ (∀ y0 y1 y2 y3 y4 y5 y6, LeO (tartanlaw03_CsvJoins.j1 k y0 y1 y2 y3 y4 y5 y6) (tartanlaw03_CsvJoins.j1 (k + 1) y0 y1 y2 y3 y4 y5 y6))
  | 0 => ⟨fun _ _ _ _ _ _ _ r h => by simp [tartanlaw03_CsvJoins.j0] at h, fun _ _ _ _ _ _ _ r h => by simp [tartanlaw03_CsvJoins.j1] at h⟩
  | k + 1 => by
    obtain ⟨ih0, ih1⟩ := tartanlaw03_CsvJoins.mono_l k
    refine ⟨?_, ?_⟩
    · intro y0 y1 y2 y3 y4 y5 y6
      unfold tartanlaw03_CsvJoins.j0
      repeat' first
      | (with_reducible exact ih0 _ _ _ _ _ _ _)
      | (with_reducible exact ih1 _ _ _ _ _ _ _)
      | (with_reducible exact tartanref03_Few.mono _ _)
      | (with_reducible exact tartanref03_Same.mono _ _ _)
      | (with_reducible exact LeO.refl _)
      | (with_reducible exact LeO.none _)
      | (with_reducible refine LeO.ite ?_ ?_)
      | (with_reducible refine LeO.bind ?_ (fun _ => ?_))
      | exact ih0 _ _ _ _ _ _ _
      | exact ih1 _ _ _ _ _ _ _
      | exact tartanref03_Few.mono _ _
      | exact tartanref03_Same.mono _ _ _
      | exact LeO.none _
      | refine LeO.ite ?_ ?_
      | refine LeO.bind ?_ (fun _ => ?_)
    · intro y0 y1 y2 y3 y4 y5 y6
      unfold tartanlaw03_CsvJoins.j1
      repeat' first
      | (with_reducible exact ih0 _ _ _ _ _ _ _)
      | (with_reducible exact ih1 _ _ _ _ _ _ _)
      | (with_reducible exact tartanref03_Few.mono _ _)
      | (with_reducible exact tartanref03_Same.mono _ _ _)
      | (with_reducible exact LeO.refl _)
      | (with_reducible exact LeO.none _)
      | (with_reducible refine LeO.ite ?_ ?_)
      | (with_reducible refine LeO.bind ?_ (fun _ => ?_))
      | exact ih0 _ _ _ _ _ _ _
      | exact ih1 _ _ _ _ _ _ _
      | exact tartanref03_Few.mono _ _
      | exact tartanref03_Same.mono _ _ _
      | exact LeO.none _
      | refine LeO.ite ?_ ?_
      | refine LeO.bind ?_ (fun _ => ?_)
theorem tartanlaw03_CsvJoins.mono : ∀ a0 a1 a2 a3 a4 k, LeO (tartanlaw03_CsvJoins.f k a0 a1 a2 a3 a4) (tartanlaw03_CsvJoins.f (k + 1) a0 a1 a2 a3 a4) := by
  intro a0 a1 a2 a3 a4 k
  obtain ⟨ih0, ih1⟩ := tartanlaw03_CsvJoins.mono_l k
  unfold tartanlaw03_CsvJoins.f
  repeat' first
      | (with_reducible exact ih0 _ _ _ _ _ _ _)
      | (with_reducible exact ih1 _ _ _ _ _ _ _)
      | (with_reducible exact tartanref03_Few.mono _ _)
      | (with_reducible exact tartanref03_Same.mono _ _ _)
      | (with_reducible exact LeO.refl _)
      | (with_reducible exact LeO.none _)
      | (with_reducible refine LeO.ite ?_ ?_)
      | (with_reducible refine LeO.bind ?_ (fun _ => ?_))
      | exact ih0 _ _ _ _ _ _ _
      | exact ih1 _ _ _ _ _ _ _
      | exact tartanref03_Few.mono _ _
      | exact tartanref03_Same.mono _ _ _
      | exact LeO.none _
      | refine LeO.ite ?_ ?_
      | refine LeO.bind ?_ (fun _ => ?_)
set_option maxHeartbeats 8000000 in
set_option maxRecDepth 100000 in
theorem tartanlaw03_CsvJoins.calls (k : Nat) (P0_ : Nat → Prop) (A0 : Option Addr) (c0 : Nat) (l0 : List (List ByteArray)) (P1_ : Nat → Prop) (A1 : Option Addr) (c1 : Nat) (l1 : List (List ByteArray)) (a2 : Int) (a3 : Bool) (a4 : Bool) (r : Bool) (w : World) (hs0 : Kd.V (Kd.slice 9 Kd.string) 38 w w.heap.size (fun k_ => P0_ k_) (.slice A0 l0.length c0) l0) (hs1 : Kd.V (Kd.slice 9 Kd.string) 38 w w.heap.size (fun k_ => P1_ k_) (.slice A1 l1.length c1) l1) (h : tartanlaw03_CsvJoins.f k l0 l1 a2 a3 a4 = some r) :
    Calls Try.prog 16 #[.slice A0 l0.length c0, .slice A1 l1.length c1, .int .u8 a2, .bool a3, .bool a4] w fun e w' => e = .returned (.bool r) ∧ Below w.heap.size w w' := by
  have HO0 := Aside0.mk (show Kd.V (Kd.slice 9 Kd.string) 38 w w.heap.size (fun k_ => ((P0_ k_ ∨ P1_ k_) ∨ w.heap.size ≤ k_)) (.slice A0 l0.length c0) l0 from Kd.V_mono hs0 (fun k_ hk => .inl (.inl hk)))
  have HO1 := Aside0.mk (show Kd.V (Kd.slice 9 Kd.string) 38 w w.heap.size (fun k_ => ((P0_ k_ ∨ P1_ k_) ∨ w.heap.size ≤ k_)) (.slice A1 l1.length c1) l1 from Kd.V_mono hs1 (fun k_ hk => .inl (.inr hk)))
  have HB := Aside0.mk (Below.refl w.heap.size w)
  have H : ((tartanlaw03_works.f).bind fun t207 => (if t207 = true then ((tartanref03_Few.f k l0).bind fun t208 => (if t208 = true then ((tartanref03_Few.f k l1).bind fun t209 => (tartanlaw03_CsvJoins.j0 k l0 l1 a2 a3 a4 t207 t209)) else (tartanlaw03_CsvJoins.j0 k l0 l1 a2 a3 a4 t207 false))) else (some false))) = some r := h
  clear h
  replace H := Option.bind_eq_some_iff.mp H
  obtain ⟨t207, A60, H⟩ := H
  replace H : (if t207 = true then ((tartanref03_Few.f k l0).bind fun t208 => (if t208 = true then ((tartanref03_Few.f k l1).bind fun t209 => (tartanlaw03_CsvJoins.j0 k l0 l1 a2 a3 a4 t207 t209)) else (tartanlaw03_CsvJoins.j0 k l0 l1 a2 a3 a4 t207 false))) else (some false)) = some r := H
  have A6 := Aside0.mk A60
  clear A60
  by_cases c7 : t207 = true
  · subst c7
    have H1 : ((tartanref03_Few.f k l0).bind fun t208 => (if t208 = true then ((tartanref03_Few.f k l1).bind fun t209 => (tartanlaw03_CsvJoins.j0 k l0 l1 a2 a3 a4 true t209)) else (tartanlaw03_CsvJoins.j0 k l0 l1 a2 a3 a4 true false))) = some r := by rw [if_pos rfl] at H; exact H
    clear H
    have H := H1
    clear H1
    have HC8 := Aside0.mk H
    clear H
    go_enter Try.func16, Try.ntmps16
    go_upto_region 4 with (first | ((with_reducible refine gate_callee (f := 39) rfl ?_); refine goesL_ (some 21) rfl rfl Try.func39 (by kernel_rfl) rfl #[] rfl (by (try simp only [List.map_toArray, List.map_cons, List.map_nil]); first | done | rfl | (simp only [List.length_drop, List.length_take]; rfl)) ?_; (with_reducible refine (tartanlaw03_works.calls  true _ A6.out).mono ?_); rintro e w9 ⟨rfl, hb⟩; refine ⟨_, rfl, ?_⟩; have n0_ := Aside0.mk (Kd.V_below (by (with_reducible repeat (first | apply Kd.V_alloc | apply Kd.V_drewN | apply Kd.V_drew)); exact HO0.out) hb); have n1_ := Aside0.mk (Kd.V_below (by (with_reducible repeat (first | apply Kd.V_alloc | apply Kd.V_drewN | apply Kd.V_drew)); exact HO1.out) hb); have n2_ := Aside0.mk (below_step (by repeat (first | (with_reducible first | exact HB.out | apply below_alloc | apply pw_below_drewN | apply below_drew1) | exact HB.out)) hb); clear HO0; clear HO1; clear HB; have HO0 := n0_; have HO1 := n1_; have HB := n2_; clear n0_ n1_ n2_; (try clear hb); (try clear hb2); (try clear hk); (try clear hi)))
    (try simp only [Act.put, List.setIfInBounds_toArray, List.set_cons_zero, List.set_cons_succ])
    go_cut [12] (fun v12 wc => ∃ (kq : Nat) (x12_7 : Bool), v12 = .bool x12_7 ∧ Aside0 (tartanlaw03_CsvJoins.j0 kq l0 l1 a2 a3 a4 true x12_7 = some r) ∧ Aside0 (kq ≤ k) ∧ Aside0 (Kd.V (Kd.slice 9 Kd.string) 38 wc w.heap.size (fun k_ => ((P0_ k_ ∨ P1_ k_) ∨ w.heap.size ≤ k_)) (.slice A0 l0.length c0) l0) ∧ Aside0 (Kd.V (Kd.slice 9 Kd.string) 38 wc w.heap.size (fun k_ => ((P0_ k_ ∨ P1_ k_) ∨ w.heap.size ≤ k_)) (.slice A1 l1.length c1) l1) ∧ Aside0 (Below w.heap.size w wc))
    case first =>
      have H := HC8.out
      clear HC8
      replace H := Option.bind_eq_some_iff.mp H
      obtain ⟨t208, A100, H⟩ := H
      replace H : (if t208 = true then ((tartanref03_Few.f k l1).bind fun t209 => (tartanlaw03_CsvJoins.j0 k l0 l1 a2 a3 a4 true t209)) else (tartanlaw03_CsvJoins.j0 k l0 l1 a2 a3 a4 true false)) = some r := H
      have A10 := Aside0.mk A100
      clear A100
      by_cases c11 : t208 = true
      · subst c11
        have H1 : ((tartanref03_Few.f k l1).bind fun t209 => (tartanlaw03_CsvJoins.j0 k l0 l1 a2 a3 a4 true t209)) = some r := by rw [if_pos rfl] at H; exact H
        clear H
        have H := H1
        clear H1
        replace H := Option.bind_eq_some_iff.mp H
        obtain ⟨t209, A120, H⟩ := H
        replace H : (tartanlaw03_CsvJoins.j0 k l0 l1 a2 a3 a4 true t209) = some r := H
        have A12 := Aside0.mk A120
        clear A120
        have H' := Aside0.mk H
        clear H
        go_wp2_with (first | ((with_reducible refine gate_callee (f := 43) rfl ?_); refine goesL_ (some 25) rfl rfl Try.func43 (by kernel_rfl) rfl #[.slice A0 l0.length c0] rfl (by (try simp only [List.map_toArray, List.map_cons, List.map_nil]); first | done | rfl | (simp only [List.length_drop, List.length_take]; rfl)) ?_; (with_reducible refine (tartanref03_Few.calls k _ _ l0 true _ ?side1 ?side2 A10.out).mono ?_); (case side1 => repeat (first | exact (Kd.V_reads' HO0.out).2.2 | (with_reducible refine Kd.C_alloc ?_ _) | (with_reducible refine Kd.C_drewN ?_ _) | (with_reducible refine Kd.C_drew ?_))); (case side2 => exact (Kd.V_reads' HO0.out).2.1); rintro e w' ⟨rfl, ⟨nd, rfl⟩⟩; refine ⟨_, rfl, ?_⟩) | (go_at_call 43; (with_reducible refine (tartanref03_Few.calls k _ _ l1 t209 _ ?side1 ?side2 A12.out).mono ?_); (case side1 => repeat (first | exact (Kd.V_reads' HO1.out).2.2 | (with_reducible refine Kd.C_alloc ?_ _) | (with_reducible refine Kd.C_drewN ?_ _) | (with_reducible refine Kd.C_drew ?_))); (case side2 => exact (Kd.V_reads' HO1.out).2.1); rintro e w' ⟨rfl, ⟨nd, rfl⟩⟩))
        go_meet
        case rel => exact ⟨_, (t209), (by first | rfl | (simp; done) | (simp [*]; done)), H', ⟨by first | omega | exact Nat.le_refl _⟩, ⟨by (with_reducible repeat (first | apply Kd.V_alloc | apply Kd.V_drewN | apply Kd.V_drew)); exact HO0.out⟩, ⟨by (with_reducible repeat (first | apply Kd.V_alloc | apply Kd.V_drewN | apply Kd.V_drew)); exact HO1.out⟩, ⟨by repeat (first | (with_reducible first | exact HB.out | apply below_alloc | apply pw_below_drewN | apply below_drew1) | exact HB.out)⟩⟩
      · replace c11 := Bool.eq_false_iff.mpr c11
        subst c11
        have H1 : (tartanlaw03_CsvJoins.j0 k l0 l1 a2 a3 a4 true false) = some r := by rw [if_neg (show ¬ (false = true) by decide)] at H; exact H
        clear H
        have H := H1
        clear H1
        have H' := Aside0.mk H
        clear H
        go_wp2_with (first | ((with_reducible refine gate_callee (f := 43) rfl ?_); refine goesL_ (some 25) rfl rfl Try.func43 (by kernel_rfl) rfl #[.slice A0 l0.length c0] rfl (by (try simp only [List.map_toArray, List.map_cons, List.map_nil]); first | done | rfl | (simp only [List.length_drop, List.length_take]; rfl)) ?_; (with_reducible refine (tartanref03_Few.calls k _ _ l0 false _ ?side1 ?side2 A10.out).mono ?_); (case side1 => repeat (first | exact (Kd.V_reads' HO0.out).2.2 | (with_reducible refine Kd.C_alloc ?_ _) | (with_reducible refine Kd.C_drewN ?_ _) | (with_reducible refine Kd.C_drew ?_))); (case side2 => exact (Kd.V_reads' HO0.out).2.1); rintro e w' ⟨rfl, ⟨nd, rfl⟩⟩; refine ⟨_, rfl, ?_⟩))
        go_meet
        case rel => exact ⟨_, (false), (by first | rfl | (simp; done) | (simp [*]; done)), H', ⟨by first | omega | exact Nat.le_refl _⟩, ⟨by (with_reducible repeat (first | apply Kd.V_alloc | apply Kd.V_drewN | apply Kd.V_drew)); exact HO0.out⟩, ⟨by (with_reducible repeat (first | apply Kd.V_alloc | apply Kd.V_drewN | apply Kd.V_drew)); exact HO1.out⟩, ⟨by repeat (first | (with_reducible first | exact HB.out | apply below_alloc | apply pw_below_drewN | apply below_drew1) | exact HB.out)⟩⟩
    case rest =>
      clear HC8
      try clear c1
      try clear p2
      try clear c3
      try clear c4
      try clear c7
      try clear c11
      obtain ⟨kq, x12_7, rfl, HA, HJ7, HO_0, HO_1, HB⟩ := hcut
      cases kq with
      | zero => exact absurd HA.out (by simp [tartanlaw03_CsvJoins.j0])
      | succ kj7 =>
        have H := HA.out
        clear HA
        simp only [tartanlaw03_CsvJoins.j0] at H
        by_cases c13 : x12_7 = true
        · subst c13
          have H1 : ((csv_Print.f l0 a2 a3).bind fun bt210 => ((csv_Print.f l1 a2 a4).bind fun bt212 => (if bt210.2 = 0 then (tartanlaw03_CsvJoins.j1 kj7 l0 l1 a2 true bt210.1 bt212.1 (bt212.2 != 0)) else (tartanlaw03_CsvJoins.j1 kj7 l0 l1 a2 true bt210.1 bt212.1 true)))) = some r := by rw [if_pos rfl] at H; exact H
          clear H
          have H := H1
          clear H1
          replace H := Option.bind_eq_some_iff.mp H
          obtain ⟨⟨t210, t211⟩, A140, H⟩ := H
          replace H : ((csv_Print.f l1 a2 a4).bind fun bt212 => (if t211 = 0 then (tartanlaw03_CsvJoins.j1 kj7 l0 l1 a2 true t210 bt212.1 (bt212.2 != 0)) else (tartanlaw03_CsvJoins.j1 kj7 l0 l1 a2 true t210 bt212.1 true))) = some r := H
          have A14 := Aside0.mk A140
          clear A140
          replace H := Option.bind_eq_some_iff.mp H
          obtain ⟨⟨t212, t213⟩, A150, H⟩ := H
          replace H : (if t211 = 0 then (tartanlaw03_CsvJoins.j1 kj7 l0 l1 a2 true t210 t212 (t213 != 0)) else (tartanlaw03_CsvJoins.j1 kj7 l0 l1 a2 true t210 t212 true)) = some r := H
          have A15 := Aside0.mk A150
          clear A150
          have HC16 := Aside0.mk H
          clear H
          go_upto_region 9 with (first | ((with_reducible refine gate_callee (f := 44) rfl ?_); refine goesL_ (some 37) rfl rfl Try.func44 (by kernel_rfl) rfl #[.slice A0 l0.length c0, .int .u8 a2, .bool a3] rfl (by (try simp only [List.map_toArray, List.map_cons, List.map_nil]); first | done | rfl | (simp only [List.length_drop, List.length_take]; rfl)) ?_; (with_reducible refine (csv_Print.calls _ _ l0 a2 a3 t210 t211 _ ?side1 ?side2 A14.out).mono ?_); (case side1 => repeat (first | exact (Kd.V_reads' HO_0.out).2.2 | (with_reducible refine Kd.C_alloc ?_ _) | (with_reducible refine Kd.C_drewN ?_ _) | (with_reducible refine Kd.C_drew ?_))); (case side2 => exact (Kd.V_reads' HO_0.out).2.1); rintro e w17 ⟨rfl, hb⟩; refine ⟨_, rfl, ?_⟩; have n0_ := Aside0.mk (Kd.V_below (by (with_reducible repeat (first | apply Kd.V_alloc | apply Kd.V_drewN | apply Kd.V_drew)); exact HO_0.out) hb); have n1_ := Aside0.mk (Kd.V_below (by (with_reducible repeat (first | apply Kd.V_alloc | apply Kd.V_drewN | apply Kd.V_drew)); exact HO_1.out) hb); have n2_ := Aside0.mk (below_step (by repeat (first | (with_reducible first | exact HB.out | apply below_alloc | apply pw_below_drewN | apply below_drew1) | exact HB.out)) hb); clear HO_0; clear HO_1; clear HB; have HO_0 := n0_; have HO_1 := n1_; have HB := n2_; clear n0_ n1_ n2_; (try clear hb); (try clear hb2); (try clear hk); (try clear hi)) | ((with_reducible refine gate_callee (f := 44) rfl ?_); refine goesL_ (some 44) rfl rfl Try.func44 (by kernel_rfl) rfl #[.slice A1 l1.length c1, .int .u8 a2, .bool a4] rfl (by (try simp only [List.map_toArray, List.map_cons, List.map_nil]); first | done | rfl | (simp only [List.length_drop, List.length_take]; rfl)) ?_; (with_reducible refine (csv_Print.calls _ _ l1 a2 a4 t212 t213 _ ?side1 ?side2 A15.out).mono ?_); (case side1 => repeat (first | exact (Kd.V_reads' HO_1.out).2.2 | (with_reducible refine Kd.C_alloc ?_ _) | (with_reducible refine Kd.C_drewN ?_ _) | (with_reducible refine Kd.C_drew ?_))); (case side2 => exact (Kd.V_reads' HO_1.out).2.1); rintro e w18 ⟨rfl, hb⟩; refine ⟨_, rfl, ?_⟩; have n0_ := Aside0.mk (Kd.V_below (by (with_reducible repeat (first | apply Kd.V_alloc | apply Kd.V_drewN | apply Kd.V_drew)); exact HO_0.out) hb); have n1_ := Aside0.mk (Kd.V_below (by (with_reducible repeat (first | apply Kd.V_alloc | apply Kd.V_drewN | apply Kd.V_drew)); exact HO_1.out) hb); have n2_ := Aside0.mk (below_step (by repeat (first | (with_reducible first | exact HB.out | apply below_alloc | apply pw_below_drewN | apply below_drew1) | exact HB.out)) hb); clear HO_0; clear HO_1; clear HB; have HO_0 := n0_; have HO_1 := n1_; have HB := n2_; clear n0_ n1_ n2_; (try clear hb); (try clear hb2); (try clear hk); (try clear hi)))
          (try simp only [Act.put, List.setIfInBounds_toArray, List.set_cons_zero, List.set_cons_succ])
          go_cut [52] (fun v52 wc => ∃ (kq : Nat) (x52_15 : Bool), v52 = .bool x52_15 ∧ Aside0 (tartanlaw03_CsvJoins.j1 kq l0 l1 a2 true t210 t212 x52_15 = some r) ∧ Aside0 (kq ≤ kj7) ∧ Aside0 (Kd.V (Kd.slice 9 Kd.string) 38 wc w.heap.size (fun k_ => ((P0_ k_ ∨ P1_ k_) ∨ w.heap.size ≤ k_)) (.slice A0 l0.length c0) l0) ∧ Aside0 (Kd.V (Kd.slice 9 Kd.string) 38 wc w.heap.size (fun k_ => ((P0_ k_ ∨ P1_ k_) ∨ w.heap.size ≤ k_)) (.slice A1 l1.length c1) l1) ∧ Aside0 (Below w.heap.size w wc))
          case first =>
            have H := HC16.out
            clear HC16
            by_cases c19 : t211 = 0
            · rw [if_pos c19] at H
              have c19b0 : (t211 == 0) = true := beq_iff_eq.mpr c19
              have c19b1 : (t211 != 0) = false := bne_eq_false_iff_eq.mpr c19
              clear c19
              (first | rw [c19b0] | (simp only [i64_w, i32_w]; rw [c19b0]) | skip)
              have H' := Aside0.mk H
              clear H
              go_wp2
              go_meet
              case rel => exact ⟨_, ((t213 != 0)), (by first | rfl | (simp; done) | (simp [*]; done)), H', ⟨by have := HJ7.out; first | omega | exact Nat.le_refl _⟩, ⟨by (with_reducible repeat (first | apply Kd.V_alloc | apply Kd.V_drewN | apply Kd.V_drew)); exact HO_0.out⟩, ⟨by (with_reducible repeat (first | apply Kd.V_alloc | apply Kd.V_drewN | apply Kd.V_drew)); exact HO_1.out⟩, ⟨by repeat (first | (with_reducible first | exact HB.out | apply below_alloc | apply pw_below_drewN | apply below_drew1) | exact HB.out)⟩⟩
            · rw [if_neg c19] at H
              have c19b0 : (t211 == 0) = false := beq_eq_false_iff_ne.mpr c19
              have c19b1 : (t211 != 0) = true := bne_iff_ne.mpr c19
              (first | rw [c19b0] | (simp only [i64_w, i32_w]; rw [c19b0]) | skip)
              have H' := Aside0.mk H
              clear H
              go_wp2
              go_meet
              case rel => exact ⟨_, (true), (by first | rfl | (simp; done) | (simp [*]; done)), H', ⟨by have := HJ7.out; first | omega | exact Nat.le_refl _⟩, ⟨by (with_reducible repeat (first | apply Kd.V_alloc | apply Kd.V_drewN | apply Kd.V_drew)); exact HO_0.out⟩, ⟨by (with_reducible repeat (first | apply Kd.V_alloc | apply Kd.V_drewN | apply Kd.V_drew)); exact HO_1.out⟩, ⟨by repeat (first | (with_reducible first | exact HB.out | apply below_alloc | apply pw_below_drewN | apply below_drew1) | exact HB.out)⟩⟩
          case rest =>
            clear HC16
            try clear c1
            try clear p2
            try clear c3
            try clear c4
            try clear c7
            try clear c11
            try clear c13
            try clear c16
            try clear c19
            try clear c19b0
            try clear c19b1
            try clear p2
            obtain ⟨kq, x52_15, rfl, HA, HJ15, HO_0, HO_1, HB⟩ := hcut
            cases kq with
            | zero => exact absurd HA.out (by simp [tartanlaw03_CsvJoins.j1])
            | succ kj15 =>
              have H := HA.out
              clear HA
              simp only [tartanlaw03_CsvJoins.j1] at H
              by_cases c20 : x52_15 = true
              · subst c20
                have H1 : (some true) = some r := by rw [if_pos rfl] at H; exact H
                clear H
                have H := H1
                clear H1
                obtain rfl := Option.some.inj H
                go_wp2
                go_ret
                exact ⟨by first | rfl | (simp [errW_none, errW_some] <;> rfl) | (simp [*, errW_none, errW_some] <;> rfl), by repeat (first | (with_reducible first | exact HB.out | apply below_alloc | apply pw_below_drewN | apply below_drew1) | exact HB.out)⟩
              · replace c20 := Bool.eq_false_iff.mpr c20
                subst c20
                have H1 : (if t210.size + t212.size ≤ 9223372036854775807 then ((csv_Parse.f (t210 ++ t212) a2).bind fun bt214 => ((some (([] : List (List ByteArray)) : List (List ByteArray))).bind fun y219 => (if y219.length + l0.length < 5864062014805 then ((some (y219 ++ l0 : List (List ByteArray))).bind fun y222 => (if y222.length + l1.length < 5864062014805 then ((tartanref03_Same.f kj15 bt214.1 (y222 ++ l1)).bind fun t228 => (if true = true then (if bt214.2.2 = 0 then (if bt214.2.1 = 0 then (some t228) else (some false)) else (some false)) else (some false))) else (none))) else (none)))) else (none)) = some r := by rw [if_neg (show ¬ (false = true) by decide)] at H; exact H
                clear H
                have H := H1
                clear H1
                by_cases c21 : t210.size + t212.size ≤ 9223372036854775807
                · rw [if_pos c21] at H
                  have c21b0 := eq_true c21
                  have c21b1 : decide (t210.size + t212.size ≤ 9223372036854775807) = true := decide_eq_true c21
                  try have c21b2 : (9223372036854775807 < t210.size + t212.size) = False := eq_false (Nat.not_lt.2 c21)
                  replace H := Option.bind_eq_some_iff.mp H
                  obtain ⟨⟨t214, t215, t216⟩, A220, H⟩ := H
                  replace H : ((some (([] : List (List ByteArray)) : List (List ByteArray))).bind fun y219 => (if y219.length + l0.length < 5864062014805 then ((some (y219 ++ l0 : List (List ByteArray))).bind fun y222 => (if y222.length + l1.length < 5864062014805 then ((tartanref03_Same.f kj15 t214 (y222 ++ l1)).bind fun t228 => (if true = true then (if t216 = 0 then (if t215 = 0 then (some t228) else (some false)) else (some false)) else (some false))) else (none))) else (none))) = some r := H
                  have A22 := Aside0.mk A220
                  clear A220
                  obtain ⟨y219, hy219⟩ : ∃ y_ : List (List ByteArray), y_ = (([] : List (List ByteArray))) := ⟨_, rfl⟩
                  replace H : (if y219.length + l0.length < 5864062014805 then ((some (y219 ++ l0 : List (List ByteArray))).bind fun y222 => (if y222.length + l1.length < 5864062014805 then ((tartanref03_Same.f kj15 t214 (y222 ++ l1)).bind fun t228 => (if true = true then (if t216 = 0 then (if t215 = 0 then (some t228) else (some false)) else (some false)) else (some false))) else (none))) else (none)) = some r := by first | (rw [hy219]; with_reducible exact H) | (have H2_ := (Option.bind_some _ _).symm.trans H; rw [hy219]; with_reducible exact H2_) | (have H2_ := (Option.bind_some _ _).symm.trans H; with_reducible exact H2_) | with_reducible exact H | (rw [hy219]; exact H) | exact H
                  have Ny219 := Aside0.mk hy219
                  clear hy219
                  by_cases c23 : y219.length + l0.length < 5864062014805
                  · rw [if_pos c23] at H
                    have LMc23 := Aside0.mk c23
                    clear c23
                    obtain ⟨y222, hy222⟩ : ∃ y_ : List (List ByteArray), y_ = (y219 ++ l0) := ⟨_, rfl⟩
                    replace H : (if y222.length + l1.length < 5864062014805 then ((tartanref03_Same.f kj15 t214 (y222 ++ l1)).bind fun t228 => (if true = true then (if t216 = 0 then (if t215 = 0 then (some t228) else (some false)) else (some false)) else (some false))) else (none)) = some r := by first | (rw [hy222]; with_reducible exact H) | (have H2_ := (Option.bind_some _ _).symm.trans H; rw [hy222]; with_reducible exact H2_) | (have H2_ := (Option.bind_some _ _).symm.trans H; with_reducible exact H2_) | with_reducible exact H | (rw [hy222]; exact H) | exact H
                    have Ny222 := Aside0.mk hy222
                    clear hy222
                    by_cases c24 : y222.length + l1.length < 5864062014805
                    · rw [if_pos c24] at H
                      have LMc24 := Aside0.mk c24
                      clear c24
                      obtain ⟨y225, hy225⟩ : ∃ y_ : List (List ByteArray), y_ = (y222 ++ l1) := ⟨_, rfl⟩
                      replace H : ((tartanref03_Same.f kj15 t214 y225).bind fun t228 => (if true = true then (if t216 = 0 then (if t215 = 0 then (some t228) else (some false)) else (some false)) else (some false))) = some r := by first | (rw [hy225]; with_reducible exact H) | (have H2_ := (Option.bind_some _ _).symm.trans H; rw [hy225]; with_reducible exact H2_) | (have H2_ := (Option.bind_some _ _).symm.trans H; with_reducible exact H2_) | with_reducible exact H | (rw [hy225]; exact H) | exact H
                      have Ny225 := Aside0.mk hy225
                      clear hy225
                      replace H := Option.bind_eq_some_iff.mp H
                      obtain ⟨t228, A250, H⟩ := H
                      replace H : (if true = true then (if t216 = 0 then (if t215 = 0 then (some t228) else (some false)) else (some false)) else (some false)) = some r := H
                      have A25 := Aside0.mk A250
                      clear A250
                      have H1 : (if t216 = 0 then (if t215 = 0 then (some t228) else (some false)) else (some false)) = some r := by first | (rw [if_pos rfl] at H; exact H) | (rw [if_pos trivial] at H; exact H) | (rw [if_neg not_false] at H; exact H) | simpa using H
                      clear H
                      have H := H1
                      clear H1
                      by_cases c26 : t216 = 0
                      · rw [if_pos c26] at H
                        have c26b0 : (t216 == 0) = true := beq_iff_eq.mpr c26
                        have c26b1 : (t216 != 0) = false := bne_eq_false_iff_eq.mpr c26
                        clear c26
                        by_cases c27 : t215 = 0
                        · rw [if_pos c27] at H
                          have c27b0 : (t215 == 0) = true := beq_iff_eq.mpr c27
                          have c27b1 : (t215 != 0) = false := bne_eq_false_iff_eq.mpr c27
                          clear c27
                          obtain rfl := Option.some.inj H
                          go_wp2_with (first | ((with_reducible refine gate_callee (f := 40) rfl ?_); refine goesL_ (some 59) rfl rfl Try.func40 (by kernel_rfl) rfl #[.string (t210 ++ t212), .int .u8 a2] rfl (by (try simp only [List.map_toArray, List.map_cons, List.map_nil]); first | done | rfl | (simp only [List.length_drop, List.length_take]; rfl)) ?_; (with_reducible refine (csv_Parse.calls (t210 ++ t212) a2 t214 t215 t216 _ A22.out).mono ?_); rintro e w28 ⟨v217, rfl, ho0, hb⟩; refine ⟨_, rfl, ?_⟩; have n0_ := Aside0.mk (Kd.V_elder' (by (with_reducible repeat (first | apply Kd.V_alloc | apply Kd.V_drewN | apply Kd.V_drew)); exact HO_0.out) (Kd.S_base ho0) hb); have n1_ := Aside0.mk (Kd.V_elder' (by (with_reducible repeat (first | apply Kd.V_alloc | apply Kd.V_drewN | apply Kd.V_drew)); exact HO_1.out) (Kd.S_base ho0) hb); have n2_ := Aside0.mk (Kd.N_lower (Kd.N_mono (ok' := fun k_ => ((P0_ k_ ∨ P1_ k_) ∨ w.heap.size ≤ k_)) (Kd.S_N (Kd.S_bound ho0)) (fun k_ hk_ => (.inr (Nat.le_trans (below_size (by repeat (first | (with_reducible first | exact HB.out | apply below_alloc | apply pw_below_drewN | apply below_drew1) | exact HB.out))) hk_.2.1)))) (below_size (by repeat (first | (with_reducible first | exact HB.out | apply below_alloc | apply pw_below_drewN | apply below_drew1) | exact HB.out)))); have n3_ := Aside0.mk (below_step (by repeat (first | (with_reducible first | exact HB.out | apply below_alloc | apply pw_below_drewN | apply below_drew1) | exact HB.out)) hb); clear HO_0; clear HO_1; clear HB; have HO_0 := n0_; have HO_1 := n1_; have HO218 := n2_; have HB := n3_; clear n0_ n1_ n2_ n3_; (try clear hb); (try clear hb2); (try clear hk); (try clear hi); (try clear ho0)) | ((with_reducible refine gate_dst (N := 64) rfl ?_); refine Kd.N_lit (Kd.slice 9 Kd.string) _ 38 ?hg (N' := 64) ?hd (xs := ([] : List (List ByteArray))) (inner := []) (ok := (fun k_ => ((P0_ k_ ∨ P1_ k_) ∨ w.heap.size ≤ k_) ∧ some k_ ≠ (v217 : Value).ownBlock)) (okp := (fun k_ => ((P0_ k_ ∨ P1_ k_) ∨ w.heap.size ≤ k_) ∧ some k_ ≠ (v217 : Value).ownBlock)) ?hr ?hp (fun _ hk => hk) ((show ∀ k_, w28.heap.size ≤ k_ → (fun k_ => ((P0_ k_ ∨ P1_ k_) ∨ w.heap.size ≤ k_) ∧ some k_ ≠ (v217 : Value).ownBlock) k_ from fun k_ hk => ⟨(.inr (Nat.le_trans (below_size (by repeat (first | (with_reducible first | exact HB.out | apply below_alloc | apply pw_below_drewN | apply below_drew1) | exact HB.out))) hk)), Kd.fresh' (Kd.N_lt (by (with_reducible repeat (first | apply Kd.N_alloc | apply Kd.N_drewN | apply Kd.N_drew)); exact HO218.out)) k_ hk⟩) _ (Nat.le_refl _)) (Below.refl _ _) (Nat.le_refl _) (by simp) ?_; (case hd => rfl); (case hg => rfl); (case hr => first | (go_simp; done) | (go_simp; rfl)); (case hp => exact (Reps.none _ _)); intro v220 w29 ho30 hb hg_ hnew_; clear hg_ hnew_; (first | rw [← Ny219.out] at ho30 | (simp only [Int.reduceToNat] at ho30; rw [← Ny219.out] at ho30)); have n0_ := Aside0.mk (Kd.V_elder' (by (with_reducible repeat (first | apply Kd.V_alloc | apply Kd.V_drewN | apply Kd.V_drew)); exact HO_0.out) (Kd.N_base ho30) hb); have n1_ := Aside0.mk (Kd.V_elder' (by (with_reducible repeat (first | apply Kd.V_alloc | apply Kd.V_drewN | apply Kd.V_drew)); exact HO_1.out) (Kd.N_base ho30) hb); have n2_ := Aside0.mk (Kd.N_elder' (by (with_reducible repeat (first | apply Kd.N_alloc | apply Kd.N_drewN | apply Kd.N_drew)); exact HO218.out) (Kd.N_base ho30) hb); have n3_ := Aside0.mk (Kd.N_lower ho30 (below_size (by repeat (first | (with_reducible first | exact HB.out | apply below_alloc | apply pw_below_drewN | apply below_drew1) | exact HB.out)))); have n4_ := Aside0.mk (below_step (by repeat (first | (with_reducible first | exact HB.out | apply below_alloc | apply pw_below_drewN | apply below_drew1) | exact HB.out)) hb); clear HO_0; clear HO_1; clear HO218; clear HB; have HO_0 := n0_; have HO_1 := n1_; have HO218 := n2_; have HO221 := n3_; have HB := n4_; clear n0_ n1_ n2_ n3_ n4_; clear hb ho30) | ((with_reducible refine gate_builtin (b := .append) (xs := #[.tmp 64, .tmp 65]) rfl ?_); at_builtin; refine Kd.N_append_rows (Kd.slice 9 Kd.string) (w0 := w) w.heap.size rfl (.tmp 64) (.tmp 65) 41 38 (.slice none 0 0) 24 rfl Try.underlying41 info38 rfl (by decide) (by omega) v220 y219 l0 _ _ _ (fun k_ => ((P0_ k_ ∨ P1_ k_) ∨ w.heap.size ≤ k_) ∧ some k_ ≠ (v217 : Value).ownBlock) (fun k_ => ((fun k_ => ((P0_ k_ ∨ P1_ k_) ∨ w.heap.size ≤ k_) ∧ some k_ ≠ (v217 : Value).ownBlock)) k_ ∧ some k_ ≠ (v220 : Value).ownBlock) rfl rfl ?aO ?aR (fun _ hk => hk) ?aF ?aB ?aS ?aL ?_; (case aR => exact (by skip; exact Kd.V_F (Kd.V_mono (ok' := (fun k_ => ((fun k_ => ((P0_ k_ ∨ P1_ k_) ∨ w.heap.size ≤ k_) ∧ some k_ ≠ (v217 : Value).ownBlock)) k_ ∧ some k_ ≠ (v220 : Value).ownBlock)) (HO_0.out) (fun k_ hk => ⟨⟨hk.1.1, hk.1.2⟩, hk.2⟩)))); (case aB => exact (by repeat (first | (with_reducible first | exact HB.out | apply below_alloc | apply pw_below_drewN | apply below_drew1) | exact HB.out))); (case aF => exact (fun k_ hk => ⟨(.inr (Nat.le_trans (below_size (by repeat (first | (with_reducible first | exact HB.out | apply below_alloc | apply pw_below_drewN | apply below_drew1) | exact HB.out))) hk)), Kd.fresh' (Kd.N_lt (by (with_reducible repeat (first | apply Kd.N_alloc | apply Kd.N_drewN | apply Kd.N_drew)); exact HO218.out)) k_ hk⟩)); (case aO => exact (by (with_reducible repeat (first | apply Kd.N_alloc | apply Kd.N_drewN | apply Kd.N_drew)); exact HO221.out)); (case aS => exact (below_size (by repeat (first | (with_reducible first | exact HB.out | apply below_alloc | apply pw_below_drewN | apply below_drew1) | exact HB.out)))); (case aL => have := LMc23.out; omega); intro v223 w31 ho hb hg hat; rw [← Ny222.out] at ho; have n0_ := Aside0.mk (Kd.V_afterv (ok := (fun k_ => ((P0_ k_ ∨ P1_ k_) ∨ w.heap.size ≤ k_) ∧ some k_ ≠ (v217 : Value).ownBlock)) (by (with_reducible repeat (first | apply Kd.V_alloc | apply Kd.V_drewN | apply Kd.V_drew)); exact HO_0.out) hg hat); have n1_ := Aside0.mk (Kd.V_afterv (ok := (fun k_ => ((P0_ k_ ∨ P1_ k_) ∨ w.heap.size ≤ k_) ∧ some k_ ≠ (v217 : Value).ownBlock)) (by (with_reducible repeat (first | apply Kd.V_alloc | apply Kd.V_drewN | apply Kd.V_drew)); exact HO_1.out) hg hat); have n2_ := Aside0.mk (Kd.N_afterv (ok := (fun k_ => ((P0_ k_ ∨ P1_ k_) ∨ w.heap.size ≤ k_))) (by (with_reducible repeat (first | apply Kd.N_alloc | apply Kd.N_drewN | apply Kd.N_drew)); exact HO218.out) hg hat); have n3_ := Aside0.mk (hb); have n4_ := Aside0.mk (ho); clear HO_0; clear HO_1; clear HO218; clear HB; clear HO221; have HO_0 := n0_; have HO_1 := n1_; have HO218 := n2_; have HB := n3_; have HO224 := n4_; clear n0_ n1_ n2_ n3_ n4_; clear ho hb hg hat) | ((with_reducible refine gate_builtin (b := .append) (xs := #[.tmp 66, .tmp 67]) rfl ?_); at_builtin; refine Kd.N_append_rows (Kd.slice 9 Kd.string) (w0 := w) w.heap.size rfl (.tmp 66) (.tmp 67) 41 38 (.slice none 0 0) 24 rfl Try.underlying41 info38 rfl (by decide) (by omega) v223 y222 l1 _ _ _ (fun k_ => ((P0_ k_ ∨ P1_ k_) ∨ w.heap.size ≤ k_) ∧ some k_ ≠ (v217 : Value).ownBlock) (fun k_ => ((fun k_ => ((P0_ k_ ∨ P1_ k_) ∨ w.heap.size ≤ k_) ∧ some k_ ≠ (v217 : Value).ownBlock)) k_ ∧ some k_ ≠ (v223 : Value).ownBlock) rfl rfl ?aO ?aR (fun _ hk => hk) ?aF ?aB ?aS ?aL ?_; (case aR => exact (by skip; exact Kd.V_F (Kd.V_mono (ok' := (fun k_ => ((fun k_ => ((P0_ k_ ∨ P1_ k_) ∨ w.heap.size ≤ k_) ∧ some k_ ≠ (v217 : Value).ownBlock)) k_ ∧ some k_ ≠ (v223 : Value).ownBlock)) (HO_1.out) (fun k_ hk => ⟨⟨hk.1.1, hk.1.2⟩, hk.2⟩)))); (case aB => exact (by repeat (first | (with_reducible first | exact HB.out | apply below_alloc | apply pw_below_drewN | apply below_drew1) | exact HB.out))); (case aF => exact (fun k_ hk => ⟨(.inr (Nat.le_trans (below_size (by repeat (first | (with_reducible first | exact HB.out | apply below_alloc | apply pw_below_drewN | apply below_drew1) | exact HB.out))) hk)), Kd.fresh' (Kd.N_lt (by (with_reducible repeat (first | apply Kd.N_alloc | apply Kd.N_drewN | apply Kd.N_drew)); exact HO218.out)) k_ hk⟩)); (case aO => exact (by (with_reducible repeat (first | apply Kd.N_alloc | apply Kd.N_drewN | apply Kd.N_drew)); exact HO224.out)); (case aS => exact (below_size (by repeat (first | (with_reducible first | exact HB.out | apply below_alloc | apply pw_below_drewN | apply below_drew1) | exact HB.out)))); (case aL => have := LMc24.out; omega); intro v226 w32 ho hb hg hat; rw [← Ny225.out] at ho; have n0_ := Aside0.mk (Kd.V_afterv (ok := (fun k_ => ((P0_ k_ ∨ P1_ k_) ∨ w.heap.size ≤ k_) ∧ some k_ ≠ (v217 : Value).ownBlock)) (by (with_reducible repeat (first | apply Kd.V_alloc | apply Kd.V_drewN | apply Kd.V_drew)); exact HO_0.out) hg hat); have n1_ := Aside0.mk (Kd.V_afterv (ok := (fun k_ => ((P0_ k_ ∨ P1_ k_) ∨ w.heap.size ≤ k_) ∧ some k_ ≠ (v217 : Value).ownBlock)) (by (with_reducible repeat (first | apply Kd.V_alloc | apply Kd.V_drewN | apply Kd.V_drew)); exact HO_1.out) hg hat); have n2_ := Aside0.mk (Kd.N_afterv (ok := (fun k_ => ((P0_ k_ ∨ P1_ k_) ∨ w.heap.size ≤ k_))) (by (with_reducible repeat (first | apply Kd.N_alloc | apply Kd.N_drewN | apply Kd.N_drew)); exact HO218.out) hg hat); have n3_ := Aside0.mk (hb); have n4_ := Aside0.mk (ho); clear HO_0; clear HO_1; clear HO218; clear HB; clear HO224; have HO_0 := n0_; have HO_1 := n1_; have HO218 := n2_; have HB := n3_; have HO227 := n4_; clear n0_ n1_ n2_ n3_ n4_; clear ho hb hg hat; obtain ⟨Ao33, co33, eo33⟩ := Kd.N_slice HO218.out; subst eo33; obtain ⟨Ao34, co34, eo34⟩ := Kd.N_slice HO227.out; subst eo34) | ((with_reducible refine gate_callee (f := 42) rfl ?_); refine goesL_ (some 69) rfl rfl Try.func42 (by kernel_rfl) rfl #[.slice Ao33 t214.length co33, .slice Ao34 y225.length co34] rfl (by (try simp only [List.map_toArray, List.map_cons, List.map_nil]); first | done | rfl | (simp only [List.length_drop, List.length_take]; rfl)) ?_; (with_reducible refine (tartanref03_Same.calls kj15 _ _ t214 _ _ y225 t228 _ ?side1 ?side2 ?side3 ?side4 A25.out).mono ?_); (case side1 => repeat (first | exact (Kd.N_reads' HO218.out).2.2 | (with_reducible refine Kd.C_alloc ?_ _) | (with_reducible refine Kd.C_drewN ?_ _) | (with_reducible refine Kd.C_drew ?_))); (case side2 => exact (Kd.N_reads' HO218.out).2.1); (case side3 => repeat (first | exact (Kd.N_reads' HO227.out).2.2 | (with_reducible refine Kd.C_alloc ?_ _) | (with_reducible refine Kd.C_drewN ?_ _) | (with_reducible refine Kd.C_drew ?_))); (case side4 => exact (Kd.N_reads' HO227.out).2.1); rintro e w' ⟨rfl, ⟨nd, rfl⟩⟩; refine ⟨_, rfl, ?_⟩))
                          go_ret
                          exact ⟨by first | rfl | (simp [errW_none, errW_some] <;> rfl) | (simp [*, errW_none, errW_some] <;> rfl), by repeat (first | (with_reducible first | exact HB.out | apply below_alloc | apply pw_below_drewN | apply below_drew1) | exact HB.out)⟩
                        · rw [if_neg c27] at H
                          have c27b0 : (t215 == 0) = false := beq_eq_false_iff_ne.mpr c27
                          have c27b1 : (t215 != 0) = true := bne_iff_ne.mpr c27
                          obtain rfl := Option.some.inj H
                          go_wp2_with (first | ((with_reducible refine gate_callee (f := 40) rfl ?_); refine goesL_ (some 59) rfl rfl Try.func40 (by kernel_rfl) rfl #[.string (t210 ++ t212), .int .u8 a2] rfl (by (try simp only [List.map_toArray, List.map_cons, List.map_nil]); first | done | rfl | (simp only [List.length_drop, List.length_take]; rfl)) ?_; (with_reducible refine (csv_Parse.calls (t210 ++ t212) a2 t214 t215 t216 _ A22.out).mono ?_); rintro e w35 ⟨v217, rfl, ho0, hb⟩; refine ⟨_, rfl, ?_⟩; have n0_ := Aside0.mk (Kd.V_elder' (by (with_reducible repeat (first | apply Kd.V_alloc | apply Kd.V_drewN | apply Kd.V_drew)); exact HO_0.out) (Kd.S_base ho0) hb); have n1_ := Aside0.mk (Kd.V_elder' (by (with_reducible repeat (first | apply Kd.V_alloc | apply Kd.V_drewN | apply Kd.V_drew)); exact HO_1.out) (Kd.S_base ho0) hb); have n2_ := Aside0.mk (Kd.N_lower (Kd.N_mono (ok' := fun k_ => ((P0_ k_ ∨ P1_ k_) ∨ w.heap.size ≤ k_)) (Kd.S_N (Kd.S_bound ho0)) (fun k_ hk_ => (.inr (Nat.le_trans (below_size (by repeat (first | (with_reducible first | exact HB.out | apply below_alloc | apply pw_below_drewN | apply below_drew1) | exact HB.out))) hk_.2.1)))) (below_size (by repeat (first | (with_reducible first | exact HB.out | apply below_alloc | apply pw_below_drewN | apply below_drew1) | exact HB.out)))); have n3_ := Aside0.mk (below_step (by repeat (first | (with_reducible first | exact HB.out | apply below_alloc | apply pw_below_drewN | apply below_drew1) | exact HB.out)) hb); clear HO_0; clear HO_1; clear HB; have HO_0 := n0_; have HO_1 := n1_; have HO218 := n2_; have HB := n3_; clear n0_ n1_ n2_ n3_; (try clear hb); (try clear hb2); (try clear hk); (try clear hi); (try clear ho0)) | ((with_reducible refine gate_dst (N := 64) rfl ?_); refine Kd.N_lit (Kd.slice 9 Kd.string) _ 38 ?hg (N' := 64) ?hd (xs := ([] : List (List ByteArray))) (inner := []) (ok := (fun k_ => ((P0_ k_ ∨ P1_ k_) ∨ w.heap.size ≤ k_) ∧ some k_ ≠ (v217 : Value).ownBlock)) (okp := (fun k_ => ((P0_ k_ ∨ P1_ k_) ∨ w.heap.size ≤ k_) ∧ some k_ ≠ (v217 : Value).ownBlock)) ?hr ?hp (fun _ hk => hk) ((show ∀ k_, w35.heap.size ≤ k_ → (fun k_ => ((P0_ k_ ∨ P1_ k_) ∨ w.heap.size ≤ k_) ∧ some k_ ≠ (v217 : Value).ownBlock) k_ from fun k_ hk => ⟨(.inr (Nat.le_trans (below_size (by repeat (first | (with_reducible first | exact HB.out | apply below_alloc | apply pw_below_drewN | apply below_drew1) | exact HB.out))) hk)), Kd.fresh' (Kd.N_lt (by (with_reducible repeat (first | apply Kd.N_alloc | apply Kd.N_drewN | apply Kd.N_drew)); exact HO218.out)) k_ hk⟩) _ (Nat.le_refl _)) (Below.refl _ _) (Nat.le_refl _) (by simp) ?_; (case hd => rfl); (case hg => rfl); (case hr => first | (go_simp; done) | (go_simp; rfl)); (case hp => exact (Reps.none _ _)); intro v220 w36 ho37 hb hg_ hnew_; clear hg_ hnew_; (first | rw [← Ny219.out] at ho37 | (simp only [Int.reduceToNat] at ho37; rw [← Ny219.out] at ho37)); have n0_ := Aside0.mk (Kd.V_elder' (by (with_reducible repeat (first | apply Kd.V_alloc | apply Kd.V_drewN | apply Kd.V_drew)); exact HO_0.out) (Kd.N_base ho37) hb); have n1_ := Aside0.mk (Kd.V_elder' (by (with_reducible repeat (first | apply Kd.V_alloc | apply Kd.V_drewN | apply Kd.V_drew)); exact HO_1.out) (Kd.N_base ho37) hb); have n2_ := Aside0.mk (Kd.N_elder' (by (with_reducible repeat (first | apply Kd.N_alloc | apply Kd.N_drewN | apply Kd.N_drew)); exact HO218.out) (Kd.N_base ho37) hb); have n3_ := Aside0.mk (Kd.N_lower ho37 (below_size (by repeat (first | (with_reducible first | exact HB.out | apply below_alloc | apply pw_below_drewN | apply below_drew1) | exact HB.out)))); have n4_ := Aside0.mk (below_step (by repeat (first | (with_reducible first | exact HB.out | apply below_alloc | apply pw_below_drewN | apply below_drew1) | exact HB.out)) hb); clear HO_0; clear HO_1; clear HO218; clear HB; have HO_0 := n0_; have HO_1 := n1_; have HO218 := n2_; have HO221 := n3_; have HB := n4_; clear n0_ n1_ n2_ n3_ n4_; clear hb ho37) | ((with_reducible refine gate_builtin (b := .append) (xs := #[.tmp 64, .tmp 65]) rfl ?_); at_builtin; refine Kd.N_append_rows (Kd.slice 9 Kd.string) (w0 := w) w.heap.size rfl (.tmp 64) (.tmp 65) 41 38 (.slice none 0 0) 24 rfl Try.underlying41 info38 rfl (by decide) (by omega) v220 y219 l0 _ _ _ (fun k_ => ((P0_ k_ ∨ P1_ k_) ∨ w.heap.size ≤ k_) ∧ some k_ ≠ (v217 : Value).ownBlock) (fun k_ => ((fun k_ => ((P0_ k_ ∨ P1_ k_) ∨ w.heap.size ≤ k_) ∧ some k_ ≠ (v217 : Value).ownBlock)) k_ ∧ some k_ ≠ (v220 : Value).ownBlock) rfl rfl ?aO ?aR (fun _ hk => hk) ?aF ?aB ?aS ?aL ?_; (case aR => exact (by skip; exact Kd.V_F (Kd.V_mono (ok' := (fun k_ => ((fun k_ => ((P0_ k_ ∨ P1_ k_) ∨ w.heap.size ≤ k_) ∧ some k_ ≠ (v217 : Value).ownBlock)) k_ ∧ some k_ ≠ (v220 : Value).ownBlock)) (HO_0.out) (fun k_ hk => ⟨⟨hk.1.1, hk.1.2⟩, hk.2⟩)))); (case aB => exact (by repeat (first | (with_reducible first | exact HB.out | apply below_alloc | apply pw_below_drewN | apply below_drew1) | exact HB.out))); (case aF => exact (fun k_ hk => ⟨(.inr (Nat.le_trans (below_size (by repeat (first | (with_reducible first | exact HB.out | apply below_alloc | apply pw_below_drewN | apply below_drew1) | exact HB.out))) hk)), Kd.fresh' (Kd.N_lt (by (with_reducible repeat (first | apply Kd.N_alloc | apply Kd.N_drewN | apply Kd.N_drew)); exact HO218.out)) k_ hk⟩)); (case aO => exact (by (with_reducible repeat (first | apply Kd.N_alloc | apply Kd.N_drewN | apply Kd.N_drew)); exact HO221.out)); (case aS => exact (below_size (by repeat (first | (with_reducible first | exact HB.out | apply below_alloc | apply pw_below_drewN | apply below_drew1) | exact HB.out)))); (case aL => have := LMc23.out; omega); intro v223 w38 ho hb hg hat; rw [← Ny222.out] at ho; have n0_ := Aside0.mk (Kd.V_afterv (ok := (fun k_ => ((P0_ k_ ∨ P1_ k_) ∨ w.heap.size ≤ k_) ∧ some k_ ≠ (v217 : Value).ownBlock)) (by (with_reducible repeat (first | apply Kd.V_alloc | apply Kd.V_drewN | apply Kd.V_drew)); exact HO_0.out) hg hat); have n1_ := Aside0.mk (Kd.V_afterv (ok := (fun k_ => ((P0_ k_ ∨ P1_ k_) ∨ w.heap.size ≤ k_) ∧ some k_ ≠ (v217 : Value).ownBlock)) (by (with_reducible repeat (first | apply Kd.V_alloc | apply Kd.V_drewN | apply Kd.V_drew)); exact HO_1.out) hg hat); have n2_ := Aside0.mk (Kd.N_afterv (ok := (fun k_ => ((P0_ k_ ∨ P1_ k_) ∨ w.heap.size ≤ k_))) (by (with_reducible repeat (first | apply Kd.N_alloc | apply Kd.N_drewN | apply Kd.N_drew)); exact HO218.out) hg hat); have n3_ := Aside0.mk (hb); have n4_ := Aside0.mk (ho); clear HO_0; clear HO_1; clear HO218; clear HB; clear HO221; have HO_0 := n0_; have HO_1 := n1_; have HO218 := n2_; have HB := n3_; have HO224 := n4_; clear n0_ n1_ n2_ n3_ n4_; clear ho hb hg hat) | ((with_reducible refine gate_builtin (b := .append) (xs := #[.tmp 66, .tmp 67]) rfl ?_); at_builtin; refine Kd.N_append_rows (Kd.slice 9 Kd.string) (w0 := w) w.heap.size rfl (.tmp 66) (.tmp 67) 41 38 (.slice none 0 0) 24 rfl Try.underlying41 info38 rfl (by decide) (by omega) v223 y222 l1 _ _ _ (fun k_ => ((P0_ k_ ∨ P1_ k_) ∨ w.heap.size ≤ k_) ∧ some k_ ≠ (v217 : Value).ownBlock) (fun k_ => ((fun k_ => ((P0_ k_ ∨ P1_ k_) ∨ w.heap.size ≤ k_) ∧ some k_ ≠ (v217 : Value).ownBlock)) k_ ∧ some k_ ≠ (v223 : Value).ownBlock) rfl rfl ?aO ?aR (fun _ hk => hk) ?aF ?aB ?aS ?aL ?_; (case aR => exact (by skip; exact Kd.V_F (Kd.V_mono (ok' := (fun k_ => ((fun k_ => ((P0_ k_ ∨ P1_ k_) ∨ w.heap.size ≤ k_) ∧ some k_ ≠ (v217 : Value).ownBlock)) k_ ∧ some k_ ≠ (v223 : Value).ownBlock)) (HO_1.out) (fun k_ hk => ⟨⟨hk.1.1, hk.1.2⟩, hk.2⟩)))); (case aB => exact (by repeat (first | (with_reducible first | exact HB.out | apply below_alloc | apply pw_below_drewN | apply below_drew1) | exact HB.out))); (case aF => exact (fun k_ hk => ⟨(.inr (Nat.le_trans (below_size (by repeat (first | (with_reducible first | exact HB.out | apply below_alloc | apply pw_below_drewN | apply below_drew1) | exact HB.out))) hk)), Kd.fresh' (Kd.N_lt (by (with_reducible repeat (first | apply Kd.N_alloc | apply Kd.N_drewN | apply Kd.N_drew)); exact HO218.out)) k_ hk⟩)); (case aO => exact (by (with_reducible repeat (first | apply Kd.N_alloc | apply Kd.N_drewN | apply Kd.N_drew)); exact HO224.out)); (case aS => exact (below_size (by repeat (first | (with_reducible first | exact HB.out | apply below_alloc | apply pw_below_drewN | apply below_drew1) | exact HB.out)))); (case aL => have := LMc24.out; omega); intro v226 w39 ho hb hg hat; rw [← Ny225.out] at ho; have n0_ := Aside0.mk (Kd.V_afterv (ok := (fun k_ => ((P0_ k_ ∨ P1_ k_) ∨ w.heap.size ≤ k_) ∧ some k_ ≠ (v217 : Value).ownBlock)) (by (with_reducible repeat (first | apply Kd.V_alloc | apply Kd.V_drewN | apply Kd.V_drew)); exact HO_0.out) hg hat); have n1_ := Aside0.mk (Kd.V_afterv (ok := (fun k_ => ((P0_ k_ ∨ P1_ k_) ∨ w.heap.size ≤ k_) ∧ some k_ ≠ (v217 : Value).ownBlock)) (by (with_reducible repeat (first | apply Kd.V_alloc | apply Kd.V_drewN | apply Kd.V_drew)); exact HO_1.out) hg hat); have n2_ := Aside0.mk (Kd.N_afterv (ok := (fun k_ => ((P0_ k_ ∨ P1_ k_) ∨ w.heap.size ≤ k_))) (by (with_reducible repeat (first | apply Kd.N_alloc | apply Kd.N_drewN | apply Kd.N_drew)); exact HO218.out) hg hat); have n3_ := Aside0.mk (hb); have n4_ := Aside0.mk (ho); clear HO_0; clear HO_1; clear HO218; clear HB; clear HO224; have HO_0 := n0_; have HO_1 := n1_; have HO218 := n2_; have HB := n3_; have HO227 := n4_; clear n0_ n1_ n2_ n3_ n4_; clear ho hb hg hat; obtain ⟨Ao40, co40, eo40⟩ := Kd.N_slice HO218.out; subst eo40; obtain ⟨Ao41, co41, eo41⟩ := Kd.N_slice HO227.out; subst eo41) | ((with_reducible refine gate_callee (f := 42) rfl ?_); refine goesL_ (some 69) rfl rfl Try.func42 (by kernel_rfl) rfl #[.slice Ao40 t214.length co40, .slice Ao41 y225.length co41] rfl (by (try simp only [List.map_toArray, List.map_cons, List.map_nil]); first | done | rfl | (simp only [List.length_drop, List.length_take]; rfl)) ?_; (with_reducible refine (tartanref03_Same.calls kj15 _ _ t214 _ _ y225 t228 _ ?side1 ?side2 ?side3 ?side4 A25.out).mono ?_); (case side1 => repeat (first | exact (Kd.N_reads' HO218.out).2.2 | (with_reducible refine Kd.C_alloc ?_ _) | (with_reducible refine Kd.C_drewN ?_ _) | (with_reducible refine Kd.C_drew ?_))); (case side2 => exact (Kd.N_reads' HO218.out).2.1); (case side3 => repeat (first | exact (Kd.N_reads' HO227.out).2.2 | (with_reducible refine Kd.C_alloc ?_ _) | (with_reducible refine Kd.C_drewN ?_ _) | (with_reducible refine Kd.C_drew ?_))); (case side4 => exact (Kd.N_reads' HO227.out).2.1); rintro e w' ⟨rfl, ⟨nd, rfl⟩⟩; refine ⟨_, rfl, ?_⟩))
                          go_ret
                          exact ⟨by first | rfl | (simp [errW_none, errW_some] <;> rfl) | (simp [*, errW_none, errW_some] <;> rfl), by repeat (first | (with_reducible first | exact HB.out | apply below_alloc | apply pw_below_drewN | apply below_drew1) | exact HB.out)⟩
                      · rw [if_neg c26] at H
                        have c26b0 : (t216 == 0) = false := beq_eq_false_iff_ne.mpr c26
                        have c26b1 : (t216 != 0) = true := bne_iff_ne.mpr c26
                        obtain rfl := Option.some.inj H
                        go_wp2_with (first | ((with_reducible refine gate_callee (f := 40) rfl ?_); refine goesL_ (some 59) rfl rfl Try.func40 (by kernel_rfl) rfl #[.string (t210 ++ t212), .int .u8 a2] rfl (by (try simp only [List.map_toArray, List.map_cons, List.map_nil]); first | done | rfl | (simp only [List.length_drop, List.length_take]; rfl)) ?_; (with_reducible refine (csv_Parse.calls (t210 ++ t212) a2 t214 t215 t216 _ A22.out).mono ?_); rintro e w42 ⟨v217, rfl, ho0, hb⟩; refine ⟨_, rfl, ?_⟩; have n0_ := Aside0.mk (Kd.V_elder' (by (with_reducible repeat (first | apply Kd.V_alloc | apply Kd.V_drewN | apply Kd.V_drew)); exact HO_0.out) (Kd.S_base ho0) hb); have n1_ := Aside0.mk (Kd.V_elder' (by (with_reducible repeat (first | apply Kd.V_alloc | apply Kd.V_drewN | apply Kd.V_drew)); exact HO_1.out) (Kd.S_base ho0) hb); have n2_ := Aside0.mk (Kd.N_lower (Kd.N_mono (ok' := fun k_ => ((P0_ k_ ∨ P1_ k_) ∨ w.heap.size ≤ k_)) (Kd.S_N (Kd.S_bound ho0)) (fun k_ hk_ => (.inr (Nat.le_trans (below_size (by repeat (first | (with_reducible first | exact HB.out | apply below_alloc | apply pw_below_drewN | apply below_drew1) | exact HB.out))) hk_.2.1)))) (below_size (by repeat (first | (with_reducible first | exact HB.out | apply below_alloc | apply pw_below_drewN | apply below_drew1) | exact HB.out)))); have n3_ := Aside0.mk (below_step (by repeat (first | (with_reducible first | exact HB.out | apply below_alloc | apply pw_below_drewN | apply below_drew1) | exact HB.out)) hb); clear HO_0; clear HO_1; clear HB; have HO_0 := n0_; have HO_1 := n1_; have HO218 := n2_; have HB := n3_; clear n0_ n1_ n2_ n3_; (try clear hb); (try clear hb2); (try clear hk); (try clear hi); (try clear ho0)) | ((with_reducible refine gate_dst (N := 64) rfl ?_); refine Kd.N_lit (Kd.slice 9 Kd.string) _ 38 ?hg (N' := 64) ?hd (xs := ([] : List (List ByteArray))) (inner := []) (ok := (fun k_ => ((P0_ k_ ∨ P1_ k_) ∨ w.heap.size ≤ k_) ∧ some k_ ≠ (v217 : Value).ownBlock)) (okp := (fun k_ => ((P0_ k_ ∨ P1_ k_) ∨ w.heap.size ≤ k_) ∧ some k_ ≠ (v217 : Value).ownBlock)) ?hr ?hp (fun _ hk => hk) ((show ∀ k_, w42.heap.size ≤ k_ → (fun k_ => ((P0_ k_ ∨ P1_ k_) ∨ w.heap.size ≤ k_) ∧ some k_ ≠ (v217 : Value).ownBlock) k_ from fun k_ hk => ⟨(.inr (Nat.le_trans (below_size (by repeat (first | (with_reducible first | exact HB.out | apply below_alloc | apply pw_below_drewN | apply below_drew1) | exact HB.out))) hk)), Kd.fresh' (Kd.N_lt (by (with_reducible repeat (first | apply Kd.N_alloc | apply Kd.N_drewN | apply Kd.N_drew)); exact HO218.out)) k_ hk⟩) _ (Nat.le_refl _)) (Below.refl _ _) (Nat.le_refl _) (by simp) ?_; (case hd => rfl); (case hg => rfl); (case hr => first | (go_simp; done) | (go_simp; rfl)); (case hp => exact (Reps.none _ _)); intro v220 w43 ho44 hb hg_ hnew_; clear hg_ hnew_; (first | rw [← Ny219.out] at ho44 | (simp only [Int.reduceToNat] at ho44; rw [← Ny219.out] at ho44)); have n0_ := Aside0.mk (Kd.V_elder' (by (with_reducible repeat (first | apply Kd.V_alloc | apply Kd.V_drewN | apply Kd.V_drew)); exact HO_0.out) (Kd.N_base ho44) hb); have n1_ := Aside0.mk (Kd.V_elder' (by (with_reducible repeat (first | apply Kd.V_alloc | apply Kd.V_drewN | apply Kd.V_drew)); exact HO_1.out) (Kd.N_base ho44) hb); have n2_ := Aside0.mk (Kd.N_elder' (by (with_reducible repeat (first | apply Kd.N_alloc | apply Kd.N_drewN | apply Kd.N_drew)); exact HO218.out) (Kd.N_base ho44) hb); have n3_ := Aside0.mk (Kd.N_lower ho44 (below_size (by repeat (first | (with_reducible first | exact HB.out | apply below_alloc | apply pw_below_drewN | apply below_drew1) | exact HB.out)))); have n4_ := Aside0.mk (below_step (by repeat (first | (with_reducible first | exact HB.out | apply below_alloc | apply pw_below_drewN | apply below_drew1) | exact HB.out)) hb); clear HO_0; clear HO_1; clear HO218; clear HB; have HO_0 := n0_; have HO_1 := n1_; have HO218 := n2_; have HO221 := n3_; have HB := n4_; clear n0_ n1_ n2_ n3_ n4_; clear hb ho44) | ((with_reducible refine gate_builtin (b := .append) (xs := #[.tmp 64, .tmp 65]) rfl ?_); at_builtin; refine Kd.N_append_rows (Kd.slice 9 Kd.string) (w0 := w) w.heap.size rfl (.tmp 64) (.tmp 65) 41 38 (.slice none 0 0) 24 rfl Try.underlying41 info38 rfl (by decide) (by omega) v220 y219 l0 _ _ _ (fun k_ => ((P0_ k_ ∨ P1_ k_) ∨ w.heap.size ≤ k_) ∧ some k_ ≠ (v217 : Value).ownBlock) (fun k_ => ((fun k_ => ((P0_ k_ ∨ P1_ k_) ∨ w.heap.size ≤ k_) ∧ some k_ ≠ (v217 : Value).ownBlock)) k_ ∧ some k_ ≠ (v220 : Value).ownBlock) rfl rfl ?aO ?aR (fun _ hk => hk) ?aF ?aB ?aS ?aL ?_; (case aR => exact (by skip; exact Kd.V_F (Kd.V_mono (ok' := (fun k_ => ((fun k_ => ((P0_ k_ ∨ P1_ k_) ∨ w.heap.size ≤ k_) ∧ some k_ ≠ (v217 : Value).ownBlock)) k_ ∧ some k_ ≠ (v220 : Value).ownBlock)) (HO_0.out) (fun k_ hk => ⟨⟨hk.1.1, hk.1.2⟩, hk.2⟩)))); (case aB => exact (by repeat (first | (with_reducible first | exact HB.out | apply below_alloc | apply pw_below_drewN | apply below_drew1) | exact HB.out))); (case aF => exact (fun k_ hk => ⟨(.inr (Nat.le_trans (below_size (by repeat (first | (with_reducible first | exact HB.out | apply below_alloc | apply pw_below_drewN | apply below_drew1) | exact HB.out))) hk)), Kd.fresh' (Kd.N_lt (by (with_reducible repeat (first | apply Kd.N_alloc | apply Kd.N_drewN | apply Kd.N_drew)); exact HO218.out)) k_ hk⟩)); (case aO => exact (by (with_reducible repeat (first | apply Kd.N_alloc | apply Kd.N_drewN | apply Kd.N_drew)); exact HO221.out)); (case aS => exact (below_size (by repeat (first | (with_reducible first | exact HB.out | apply below_alloc | apply pw_below_drewN | apply below_drew1) | exact HB.out)))); (case aL => have := LMc23.out; omega); intro v223 w45 ho hb hg hat; rw [← Ny222.out] at ho; have n0_ := Aside0.mk (Kd.V_afterv (ok := (fun k_ => ((P0_ k_ ∨ P1_ k_) ∨ w.heap.size ≤ k_) ∧ some k_ ≠ (v217 : Value).ownBlock)) (by (with_reducible repeat (first | apply Kd.V_alloc | apply Kd.V_drewN | apply Kd.V_drew)); exact HO_0.out) hg hat); have n1_ := Aside0.mk (Kd.V_afterv (ok := (fun k_ => ((P0_ k_ ∨ P1_ k_) ∨ w.heap.size ≤ k_) ∧ some k_ ≠ (v217 : Value).ownBlock)) (by (with_reducible repeat (first | apply Kd.V_alloc | apply Kd.V_drewN | apply Kd.V_drew)); exact HO_1.out) hg hat); have n2_ := Aside0.mk (Kd.N_afterv (ok := (fun k_ => ((P0_ k_ ∨ P1_ k_) ∨ w.heap.size ≤ k_))) (by (with_reducible repeat (first | apply Kd.N_alloc | apply Kd.N_drewN | apply Kd.N_drew)); exact HO218.out) hg hat); have n3_ := Aside0.mk (hb); have n4_ := Aside0.mk (ho); clear HO_0; clear HO_1; clear HO218; clear HB; clear HO221; have HO_0 := n0_; have HO_1 := n1_; have HO218 := n2_; have HB := n3_; have HO224 := n4_; clear n0_ n1_ n2_ n3_ n4_; clear ho hb hg hat) | ((with_reducible refine gate_builtin (b := .append) (xs := #[.tmp 66, .tmp 67]) rfl ?_); at_builtin; refine Kd.N_append_rows (Kd.slice 9 Kd.string) (w0 := w) w.heap.size rfl (.tmp 66) (.tmp 67) 41 38 (.slice none 0 0) 24 rfl Try.underlying41 info38 rfl (by decide) (by omega) v223 y222 l1 _ _ _ (fun k_ => ((P0_ k_ ∨ P1_ k_) ∨ w.heap.size ≤ k_) ∧ some k_ ≠ (v217 : Value).ownBlock) (fun k_ => ((fun k_ => ((P0_ k_ ∨ P1_ k_) ∨ w.heap.size ≤ k_) ∧ some k_ ≠ (v217 : Value).ownBlock)) k_ ∧ some k_ ≠ (v223 : Value).ownBlock) rfl rfl ?aO ?aR (fun _ hk => hk) ?aF ?aB ?aS ?aL ?_; (case aR => exact (by skip; exact Kd.V_F (Kd.V_mono (ok' := (fun k_ => ((fun k_ => ((P0_ k_ ∨ P1_ k_) ∨ w.heap.size ≤ k_) ∧ some k_ ≠ (v217 : Value).ownBlock)) k_ ∧ some k_ ≠ (v223 : Value).ownBlock)) (HO_1.out) (fun k_ hk => ⟨⟨hk.1.1, hk.1.2⟩, hk.2⟩)))); (case aB => exact (by repeat (first | (with_reducible first | exact HB.out | apply below_alloc | apply pw_below_drewN | apply below_drew1) | exact HB.out))); (case aF => exact (fun k_ hk => ⟨(.inr (Nat.le_trans (below_size (by repeat (first | (with_reducible first | exact HB.out | apply below_alloc | apply pw_below_drewN | apply below_drew1) | exact HB.out))) hk)), Kd.fresh' (Kd.N_lt (by (with_reducible repeat (first | apply Kd.N_alloc | apply Kd.N_drewN | apply Kd.N_drew)); exact HO218.out)) k_ hk⟩)); (case aO => exact (by (with_reducible repeat (first | apply Kd.N_alloc | apply Kd.N_drewN | apply Kd.N_drew)); exact HO224.out)); (case aS => exact (below_size (by repeat (first | (with_reducible first | exact HB.out | apply below_alloc | apply pw_below_drewN | apply below_drew1) | exact HB.out)))); (case aL => have := LMc24.out; omega); intro v226 w46 ho hb hg hat; rw [← Ny225.out] at ho; have n0_ := Aside0.mk (Kd.V_afterv (ok := (fun k_ => ((P0_ k_ ∨ P1_ k_) ∨ w.heap.size ≤ k_) ∧ some k_ ≠ (v217 : Value).ownBlock)) (by (with_reducible repeat (first | apply Kd.V_alloc | apply Kd.V_drewN | apply Kd.V_drew)); exact HO_0.out) hg hat); have n1_ := Aside0.mk (Kd.V_afterv (ok := (fun k_ => ((P0_ k_ ∨ P1_ k_) ∨ w.heap.size ≤ k_) ∧ some k_ ≠ (v217 : Value).ownBlock)) (by (with_reducible repeat (first | apply Kd.V_alloc | apply Kd.V_drewN | apply Kd.V_drew)); exact HO_1.out) hg hat); have n2_ := Aside0.mk (Kd.N_afterv (ok := (fun k_ => ((P0_ k_ ∨ P1_ k_) ∨ w.heap.size ≤ k_))) (by (with_reducible repeat (first | apply Kd.N_alloc | apply Kd.N_drewN | apply Kd.N_drew)); exact HO218.out) hg hat); have n3_ := Aside0.mk (hb); have n4_ := Aside0.mk (ho); clear HO_0; clear HO_1; clear HO218; clear HB; clear HO224; have HO_0 := n0_; have HO_1 := n1_; have HO218 := n2_; have HB := n3_; have HO227 := n4_; clear n0_ n1_ n2_ n3_ n4_; clear ho hb hg hat; obtain ⟨Ao47, co47, eo47⟩ := Kd.N_slice HO218.out; subst eo47; obtain ⟨Ao48, co48, eo48⟩ := Kd.N_slice HO227.out; subst eo48) | ((with_reducible refine gate_callee (f := 42) rfl ?_); refine goesL_ (some 69) rfl rfl Try.func42 (by kernel_rfl) rfl #[.slice Ao47 t214.length co47, .slice Ao48 y225.length co48] rfl (by (try simp only [List.map_toArray, List.map_cons, List.map_nil]); first | done | rfl | (simp only [List.length_drop, List.length_take]; rfl)) ?_; (with_reducible refine (tartanref03_Same.calls kj15 _ _ t214 _ _ y225 t228 _ ?side1 ?side2 ?side3 ?side4 A25.out).mono ?_); (case side1 => repeat (first | exact (Kd.N_reads' HO218.out).2.2 | (with_reducible refine Kd.C_alloc ?_ _) | (with_reducible refine Kd.C_drewN ?_ _) | (with_reducible refine Kd.C_drew ?_))); (case side2 => exact (Kd.N_reads' HO218.out).2.1); (case side3 => repeat (first | exact (Kd.N_reads' HO227.out).2.2 | (with_reducible refine Kd.C_alloc ?_ _) | (with_reducible refine Kd.C_drewN ?_ _) | (with_reducible refine Kd.C_drew ?_))); (case side4 => exact (Kd.N_reads' HO227.out).2.1); rintro e w' ⟨rfl, ⟨nd, rfl⟩⟩; refine ⟨_, rfl, ?_⟩))
                        go_ret
                        exact ⟨by first | rfl | (simp [errW_none, errW_some] <;> rfl) | (simp [*, errW_none, errW_some] <;> rfl), by repeat (first | (with_reducible first | exact HB.out | apply below_alloc | apply pw_below_drewN | apply below_drew1) | exact HB.out)⟩
                    · rw [if_neg c24] at H
                      exact absurd H (by simp)
                  · rw [if_neg c23] at H
                    exact absurd H (by simp)
                · rw [if_neg c21] at H
                  exact absurd H (by simp)
        · replace c13 := Bool.eq_false_iff.mpr c13
          subst c13
          have H1 : (some true) = some r := by rw [if_neg (show ¬ (false = true) by decide)] at H; exact H
          clear H
          have H := H1
          clear H1
          obtain rfl := Option.some.inj H
          go_wp2
          go_ret
          exact ⟨by first | rfl | (simp [errW_none, errW_some] <;> rfl) | (simp [*, errW_none, errW_some] <;> rfl), by repeat (first | (with_reducible first | exact HB.out | apply below_alloc | apply pw_below_drewN | apply below_drew1) | exact HB.out)⟩
  · replace c7 := Bool.eq_false_iff.mpr c7
    subst c7
    have H1 : (some false) = some r := by rw [if_neg (show ¬ (false = true) by decide)] at H; exact H
    clear H
    have H := H1
    clear H1
    obtain rfl := Option.some.inj H
    go_enter Try.func16, Try.ntmps16
    go_wp2_with (first | ((with_reducible refine gate_callee (f := 39) rfl ?_); refine goesL_ (some 21) rfl rfl Try.func39 (by kernel_rfl) rfl #[] rfl (by (try simp only [List.map_toArray, List.map_cons, List.map_nil]); first | done | rfl | (simp only [List.length_drop, List.length_take]; rfl)) ?_; (with_reducible refine (tartanlaw03_works.calls  false _ A6.out).mono ?_); rintro e w49 ⟨rfl, hb⟩; refine ⟨_, rfl, ?_⟩; have n0_ := Aside0.mk (Kd.V_below (by (with_reducible repeat (first | apply Kd.V_alloc | apply Kd.V_drewN | apply Kd.V_drew)); exact HO0.out) hb); have n1_ := Aside0.mk (Kd.V_below (by (with_reducible repeat (first | apply Kd.V_alloc | apply Kd.V_drewN | apply Kd.V_drew)); exact HO1.out) hb); have n2_ := Aside0.mk (below_step (by repeat (first | (with_reducible first | exact HB.out | apply below_alloc | apply pw_below_drewN | apply below_drew1) | exact HB.out)) hb); clear HO0; clear HO1; clear HB; have HO0 := n0_; have HO1 := n1_; have HB := n2_; clear n0_ n1_ n2_; (try clear hb); (try clear hb2); (try clear hk); (try clear hi)))
    go_ret
    exact ⟨by first | rfl | (simp [errW_none, errW_some] <;> rfl) | (simp [*, errW_none, errW_some] <;> rfl), by repeat (first | (with_reducible first | exact HB.out | apply below_alloc | apply pw_below_drewN | apply below_drew1) | exact HB.out)⟩

end Go.Proofs.Ytggodagdfldndaa.Q.L.Z

/-! What csv.Print prints: the records as they are written, if all are such as csv takes. No program in sight. -/
namespace Go.Proofs.Ytggodagdfldndaa.Q.L
open Go.RowKit
theorem tooBig_false (r : List ByteArray) : tooBig r = false ↔ r.length ≤ 128 ∧ ∀ y ∈ r, y.size ≤ 4096 := by
  unfold tooBig
  rw [Bool.or_eq_false_iff, List.any_eq_false, decide_eq_false_iff_not]
  constructor
  · rintro ⟨h1, h2⟩
    refine ⟨by omega, fun y hy => ?_⟩
    have := h2 y hy
    unfold bigger at this
    simp only [decide_eq_true_eq] at this
    omega
  · rintro ⟨h1, h2⟩
    refine ⟨by omega, fun y hy => ?_⟩
    have := h2 y hy
    unfold bigger
    simp only [decide_eq_true_eq]
    omega
theorem printLoop_good (c : UInt8) (crlf : Bool) : ∀ (l : List (List ByteArray)) (e : Int) (acc : Bs), (∀ r ∈ l, RowOk r) → printLoop c crlf l e acc = (e, acc ++ recsR c.toNat c (l.map fun r => (r, crlf)))
  | [], e, acc, _ => by simp [printLoop, recsR]
  | r :: l, e, acc, h => by
    obtain ⟨h1, h2, h3⟩ := h r (by simp)
    rw [printLoop, if_neg (fun e => h1 (List.length_eq_zero_iff.1 e)), if_neg (by rw [(tooBig_false r).2 ⟨h2, h3⟩]; decide), printLoop_good c crlf l e _ (fun q hq => h q (List.mem_cons_of_mem _ hq))]
    rw [List.map_cons, recsR]
    simp [writeB, cells]
theorem printLoop_ok (c : UInt8) (crlf : Bool) : ∀ (l : List (List ByteArray)) (e : Int) (acc : Bs), (printLoop c crlf l e acc).1 = 0 → e = 0 ∧ ∀ r ∈ l, RowOk r
  | [], e, acc, h => ⟨h, by simp⟩
  | r :: l, e, acc, h => by
    rw [printLoop] at h
    split at h
    · cases h
    · rename_i h1
      split at h
      · have := (printLoop_ok c crlf l _ _ h).1
        cases this
      · rename_i h2
        obtain ⟨g1, g2⟩ := printLoop_ok c crlf l _ _ h
        refine ⟨g1, fun q hq => ?_⟩
        rcases List.mem_cons.1 hq with rfl | hq
        · obtain ⟨a1, a2⟩ := (tooBig_false q).1 (by simpa using h2)
          exact ⟨fun e => h1 (by rw [e]; rfl), a1, a2⟩
        · exact g2 q hq
/-- Records that are printed: their text. -/
def textR (d : Int) (crlf : Bool) (l : List (List ByteArray)) : Bs := recsR d (UInt8.ofNat d.toNat) (l.map fun r => (r, crlf))
theorem byteI {d : Int} (h : (Lit.int .u8 d).wf = true) : ((UInt8.ofNat d.toNat).toNat : Int) = d := by
  obtain ⟨c, rfl⟩ := delim_byte d h
  simp
theorem byteI0 {d : Int} (h : (Lit.int .u8 d).wf = true) : 0 ≤ d ∧ d ≤ 255 := by
  obtain ⟨c, rfl⟩ := delim_byte d h
  have := c.toNat_lt
  omega
theorem printF_ok (l : List (List ByteArray)) (d : Int) (crlf : Bool) (hd : (Lit.int .u8 d).wf = true) (s : ByteArray) (h : printF l d crlf = (s, 0)) : goodI d = true ∧ (∀ r ∈ l, RowOk r) ∧ l.length ≤ 2048 ∧ s = ofBs (textR d crlf l) := by
  have hb := byteI hd
  cases hg : goodI d with
  | false => unfold printF at h; rw [hg, if_neg (by decide)] at h; simp at h
  | true =>
    obtain ⟨⟨e, acc⟩, hp⟩ : ∃ p, printLoop (UInt8.ofNat d.toNat) crlf l (if 2048 < l.length then 7 else 0) [] = p := ⟨_, rfl⟩
    rw [print_post l d crlf e acc hg hp] at h
    by_cases h0 : e = 0
    · subst h0
      obtain ⟨g1, g2⟩ := printLoop_ok _ _ _ _ _ (by rw [hp])
      have hl : l.length ≤ 2048 := by
        by_cases e : 2048 < l.length
        · rw [if_pos e] at g1; cases g1
        · omega
      rw [printLoop_good _ _ _ _ _ g2, List.nil_append, hb] at hp
      rw [if_pos rfl] at h
      split at h
      · simp at h
      · refine ⟨rfl, g2, hl, ?_⟩
        rw [← (Prod.mk.inj h).1, ← (Prod.mk.inj hp).2]; rfl
    · rw [if_neg h0] at h
      exact absurd (Prod.mk.inj h).2 h0
theorem printF_bad (l : List (List ByteArray)) (d : Int) (crlf : Bool) (s : ByteArray) (e : Int) (h : printF l d crlf = (s, e)) (he : e ≠ 0) : s = ⟨#[]⟩ := by
  cases hg : goodI d with
  | false => unfold printF at h; rw [hg, if_neg (by decide)] at h; exact (Prod.mk.inj h).1.symm
  | true =>
    obtain ⟨⟨e2, acc⟩, hp⟩ : ∃ p, printLoop (UInt8.ofNat d.toNat) crlf l (if 2048 < l.length then 7 else 0) [] = p := ⟨_, rfl⟩
    rw [print_post l d crlf e2 acc hg hp] at h
    split at h
    · split at h
      · exact (Prod.mk.inj h).1.symm
      · exact absurd (Prod.mk.inj h).2.symm he
    · exact (Prod.mk.inj h).1.symm
theorem printF_good (l : List (List ByteArray)) (d : Int) (crlf : Bool) (hd : (Lit.int .u8 d).wf = true) (hg : goodI d = true) (hr : ∀ r ∈ l, RowOk r) (hl : l.length ≤ 2048) (hs : (textR d crlf l).length ≤ 4194304) : printF l d crlf = (ofBs (textR d crlf l), 0) := by
  have hb := byteI hd
  have hp := printLoop_good (UInt8.ofNat d.toNat) crlf l (if 2048 < l.length then 7 else 0) [] hr
  have e0 : (if 2048 < l.length then (7 : Int) else 0) = 0 := if_neg (by omega)
  rw [print_post l d crlf _ _ hg hp, if_pos e0, List.nil_append, hb, if_neg (by unfold textR at hs; omega)]
  rfl
theorem print_f (l : List (List ByteArray)) (d : Int) (crlf : Bool) (hd : (Lit.int .u8 d).wf = true) (hl : l.length ≤ 5000) : csv_Print.f l d crlf = some (printF l d crlf) := by
  obtain ⟨h1, h2⟩ := byteI0 hd
  unfold csv_Print.f
  rw [if_pos ⟨hl, h1, h2⟩]
/-- What is printed is parsed back. -/
theorem text_back (l : List (List ByteArray)) (d : Int) (crlf : Bool) (hd : (Lit.int .u8 d).wf = true) (hg : goodI d = true) (hr : ∀ r ∈ l, RowOk r) (hl : l.length ≤ 2048) : parseF (textR d crlf l) d = (l, 0, 0) := by
  have := parse_rows d (UInt8.ofNat d.toNat) (byteI hd) hg (l.map fun r => (r, crlf)) (by
    intro p hp
    obtain ⟨r, hr2, rfl⟩ := List.mem_map.1 hp
    exact hr r hr2) (by rw [List.length_map]; exact hl)
  unfold textR
  rw [this, List.map_map]
  rw [show (Prod.fst ∘ fun r => ((r, crlf) : List ByteArray × Bool)) = id from rfl, List.map_id]
end Go.Proofs.Ytggodagdfldndaa.Q.L

/-! What the printed Lean functions of chapter 3 come to, with enough rounds; the document's examples hold. -/
namespace Go.Proofs.Ytggodagdfldndaa.Q.L.Z
open Go.RowKit Go.Proofs.YtggodagdfldndaaW.PrintWords Go.Proofs.YtggodagdfldndaaW.PrintLast Go.Proofs.Ytggodagdfldndaa.Q.L Go.Proofs.Ytggodagdfldndaa.Q
theorem parse_f (s : ByteArray) (d : Int) (hs : s.size ≤ 1048576) : csv_Parse.f s d = some (parseF (toBs s) d) := by
  unfold csv_Parse.f; rw [if_pos hs]
theorem works03 : tartanlaw03_works.f = some true := by
  unfold tartanlaw03_works.f
  rw [parse_f _ _ (by decide), parse_f _ _ (by decide), parse_f _ _ (by decide), print_f _ _ _ (by decide) (by decide)]
  decide +kernel
theorem rd_nat (l : List (List ByteArray)) (i : Nat) (h : i < l.length) : rd_L1 l (i : Int) = l[i] := by
  unfold rd_L1
  simp [h]
/-! ### are records alike? -/
theorem row_l0 (a b : List ByteArray) (hl : a.length = b.length) (hb : a.length ≤ 1000000) : ∀ (m k i : Nat), i + m = a.length → m < k → a.take i = b.take i → tartanref03_Row.l0 k a b i = some (decide (a = b)) := by
  intro m
  induction m with
  | zero =>
    intro k i hi hk he
    obtain ⟨k, rfl⟩ : ∃ q, k = q + 1 := ⟨k - 1, by omega⟩
    simp only [tartanref03_Row.l0]
    rw [List.take_of_length_le (by omega), List.take_of_length_le (by omega)] at he
    rw [if_neg (by omega), he]; simp
  | succ m ih =>
    intro k i hi hk he
    obtain ⟨k, rfl⟩ : ∃ q, k = q + 1 := ⟨k - 1, by omega⟩
    have h1 : i < a.length := by omega
    have h2 : i < b.length := by omega
    simp only [tartanref03_Row.l0]
    rw [if_pos (by omega), if_pos (by omega), if_pos (by omega), rdOf_nat a i h1, rdOf_nat b i h2, toList_toBs, toList_toBs]
    by_cases e : a[i] = b[i]
    · rw [if_pos (by rw [e]), show wrap64 ((i : Int) + 1) = ((i + 1 : Nat) : Int) from wrap_nat i 1 (by omega)]
      refine ih k (i + 1) (by omega) (by omega) ?_
      rw [List.take_add_one, List.take_add_one, he, List.getElem?_eq_getElem h1, List.getElem?_eq_getElem h2, e]
    · rw [if_neg (fun h => e (by rw [← ofBs_toBs a[i], h, ofBs_toBs])), decide_eq_false (fun h => e (by subst h; rfl))]
theorem row_f (a b : List ByteArray) (hb : a.length ≤ 1000000) (k : Nat) (hk : a.length < k) : tartanref03_Row.f k a b = some (decide (a = b)) := by
  unfold tartanref03_Row.f
  by_cases h : a.length = b.length
  · rw [if_pos (by omega)]
    exact row_l0 a b h hb a.length k 0 (by omega) hk (by simp)
  · rw [if_neg (by omega), decide_eq_false (fun e => h (by rw [e]))]
theorem same_l0 (a b : List (List ByteArray)) (hl : a.length = b.length) (hb : a.length ≤ 1000000) (B : Nat) (hB : ∀ r ∈ a, r.length ≤ B) (hB2 : B ≤ 1000000) : ∀ (m k i : Nat), i + m = a.length → m + B + 1 < k → a.take i = b.take i → tartanref03_Same.l0 k a b i = some (decide (a = b)) := by
  intro m
  induction m with
  | zero =>
    intro k i hi hk he
    obtain ⟨k, rfl⟩ : ∃ q, k = q + 1 := ⟨k - 1, by omega⟩
    simp only [tartanref03_Same.l0]
    rw [List.take_of_length_le (by omega), List.take_of_length_le (by omega)] at he
    rw [if_neg (by omega), he]; simp
  | succ m ih =>
    intro k i hi hk he
    obtain ⟨k, rfl⟩ : ∃ q, k = q + 1 := ⟨k - 1, by omega⟩
    have h1 : i < a.length := by omega
    have h2 : i < b.length := by omega
    have h3 := hB a[i] (List.getElem_mem h1)
    simp only [tartanref03_Same.l0]
    rw [if_pos (by omega), if_pos (by omega), if_pos (by omega), rd_nat a i h1, rd_nat b i h2, row_f _ _ (by omega) k (by omega), Option.bind_some]
    by_cases e : a[i] = b[i]
    · rw [if_pos (decide_eq_true e), show wrap64 ((i : Int) + 1) = ((i + 1 : Nat) : Int) from wrap_nat i 1 (by omega)]
      refine ih k (i + 1) (by omega) (by omega) ?_
      rw [List.take_add_one, List.take_add_one, he, List.getElem?_eq_getElem h1, List.getElem?_eq_getElem h2, e]
    · rw [if_neg (by rw [decide_eq_false e]; decide), decide_eq_false (fun h => e (by subst h; rfl))]
theorem same_f (a b : List (List ByteArray)) (hb : a.length ≤ 1000000) (B : Nat) (hB : ∀ r ∈ a, r.length ≤ B) (hB2 : B ≤ 1000000) (k : Nat) (hk : a.length + B + 1 < k) : tartanref03_Same.f k a b = some (decide (a = b)) := by
  unfold tartanref03_Same.f
  by_cases h : a.length = b.length
  · rw [if_pos (by omega)]
    exact same_l0 a b h hb B hB hB2 a.length k 0 (by omega) hk (by simp)
  · rw [if_neg (by omega), decide_eq_false (fun e => h (by rw [e]))]
/-! ### are they few? -/
/-- How many bytes cells count for. -/
def weigh : List ByteArray → Nat
  | [] => 0
  | x :: r => x.size + 1 + weigh r
def weighL : List (List ByteArray) → Nat
  | [] => 0
  | r :: l => weigh r + weighL l
/-- So few that they are looked at. -/
def FewP (l : List (List ByteArray)) : Prop := l.length ≤ 60 ∧ (∀ r ∈ l, r.length ≤ 60) ∧ weighL l ≤ 8000
def Sized (l : List (List ByteArray)) : Prop := ∀ r ∈ l, ∀ x ∈ r, x.size ≤ 140737488351232
theorem weigh_take (r : List ByteArray) (j : Nat) (h : j < r.length) : weigh (r.take (j + 1)) = weigh (r.take j) + (r[j].size + 1) := by
  induction r generalizing j with
  | nil => cases h
  | cons x r ih =>
    cases j with
    | zero => simp [weigh]
    | succ j =>
      have := ih j (by simpa using h)
      simp only [List.take_succ_cons, weigh, List.getElem_cons_succ, this]
      omega
theorem weighL_take (l : List (List ByteArray)) (i : Nat) (h : i < l.length) : weighL (l.take (i + 1)) = weighL (l.take i) + weigh l[i] := by
  induction l generalizing i with
  | nil => cases h
  | cons x r ih =>
    cases i with
    | zero => simp [weighL]
    | succ i =>
      have := ih i (by simpa using h)
      simp only [List.take_succ_cons, weighL, List.getElem_cons_succ, this]
      omega
theorem few_step (n s : Nat) (hn : n ≤ 8000) (hs : s ≤ 140737488351232) : wrap64 (wrap64 ((n : Int) + (s : Int)) + 1) = ((n + s + 1 : Nat) : Int) := by
  unfold wrap64; omega
/-- Few's two loops: true only if all that follows is few. -/
theorem few_loops (l : List (List ByteArray)) (hl : l.length ≤ 60) (hs : Sized l) : ∀ (m : Nat),
    (∀ (k i n : Nat), i + m = l.length → m * 62 + 1 < k → n = weighL (l.take i) → n ≤ 8000 → (∀ r ∈ l.take i, r.length ≤ 60) → ∃ b, tartanref03_Few.l0 k l (n : Int) (i : Int) = some b ∧ (b = true → FewP l)) := by
  intro m
  induction m with
  | zero =>
    intro k i n hi hk hn hn2 hr
    obtain ⟨k, rfl⟩ : ∃ q, k = q + 1 := ⟨k - 1, by omega⟩
    refine ⟨true, ?_, fun _ => ?_⟩
    · simp only [tartanref03_Few.l0]
      rw [if_neg (by omega)]
    · rw [List.take_of_length_le (by omega)] at hn hr
      exact ⟨hl, hr, by omega⟩
  | succ m ih =>
    intro k i n hi hk hn hn2 hr
    obtain ⟨k, rfl⟩ : ∃ q, k = q + 1 := ⟨k - 1, by omega⟩
    have h1 : i < l.length := by omega
    simp only [tartanref03_Few.l0]
    rw [if_pos (by omega), if_pos (by omega), rd_nat l i h1]
    by_cases h60 : (l[i].length : Int) > 60
    · exact ⟨false, by rw [if_pos h60], fun h => by cases h⟩
    · rw [if_neg h60]
      have inner : ∀ (m2 k2 j n2 : Nat), j + m2 = l[i].length → m * 62 + m2 + 2 < k2 → n2 = weighL (l.take i) + weigh (l[i].take j) → n2 ≤ 8000 → ∃ b, tartanref03_Few.l1 k2 l (n2 : Int) (i : Int) (j : Int) = some b ∧ (b = true → FewP l) := by
        intro m2
        induction m2 with
        | zero =>
          intro k2 j n2 hj hk2 hn3 hn4
          obtain ⟨k2, rfl⟩ : ∃ q, k2 = q + 1 := ⟨k2 - 1, by omega⟩
          simp only [tartanref03_Few.l1]
          rw [if_pos (by omega), if_pos (by omega), rd_nat l i h1, if_neg (by omega), show wrap64 ((i : Int) + 1) = ((i + 1 : Nat) : Int) from wrap_nat i 1 (by omega)]
          refine ih k2 (i + 1) n2 (by omega) (by omega) ?_ hn4 ?_
          · rw [weighL_take l i h1, hn3, show l[i].take j = l[i] from List.take_of_length_le (by omega)]
          · intro r hr2
            rw [List.take_add_one, List.getElem?_eq_getElem h1] at hr2
            simp only [Option.toList_some, List.mem_append, List.mem_singleton] at hr2
            rcases hr2 with hr2 | rfl
            · exact hr r hr2
            · omega
        | succ m2 ih2 =>
          intro k2 j n2 hj hk2 hn3 hn4
          obtain ⟨k2, rfl⟩ : ∃ q, k2 = q + 1 := ⟨k2 - 1, by omega⟩
          have h2 : j < l[i].length := by omega
          have hsz := hs l[i] (List.getElem_mem h1) l[i][j] (List.getElem_mem h2)
          simp only [tartanref03_Few.l1]
          rw [if_pos (by omega), if_pos (by omega), rd_nat l i h1, if_pos (by omega), if_pos (by omega), rdOf_nat _ j h2]
          rw [few_step n2 l[i][j].size hn4 hsz]
          by_cases h8 : ((n2 + l[i][j].size + 1 : Nat) : Int) > 8000
          · exact ⟨false, by rw [if_pos h8], fun h => by cases h⟩
          · rw [if_neg h8, show wrap64 ((j : Int) + 1) = ((j + 1 : Nat) : Int) from wrap_nat j 1 (by omega)]
            exact ih2 k2 (j + 1) _ (by omega) (by omega) (by rw [weigh_take _ j h2, hn3]; omega) (by omega)
      exact inner l[i].length k 0 n (by omega) (by omega) (by rw [hn]; simp [weigh]) hn2
theorem few_f (l : List (List ByteArray)) (hs : Sized l) (k : Nat) (hk : 4000 < k) : ∃ b, tartanref03_Few.f k l = some b ∧ (b = true → FewP l) := by
  unfold tartanref03_Few.f
  by_cases h : (l.length : Int) > 60
  · exact ⟨false, by rw [if_pos h], fun h => by cases h⟩
  · rw [if_neg h]
    exact few_loops l (by omega) hs l.length k 0 0 (by omega) (by omega) rfl (by omega) (by simp)
end Go.Proofs.Ytggodagdfldndaa.Q.L.Z

/-! Few records have short texts. No program in sight. -/
namespace Go.Proofs.Ytggodagdfldndaa.Q.L.Z
open Go.RowKit Go.Proofs.Ytggodagdfldndaa.Q.L
theorem costR_weigh (d : Int) : ∀ r : List ByteArray, costR d r ≤ 3 * weigh r
  | [] => Nat.le_refl _
  | x :: r => by
    have h1 := costR_weigh d r
    have h2 := put_length (toBs x) d
    rw [size_toBs] at h2
    simp only [costR, weigh]
    omega
theorem costL_weigh (d : Int) : ∀ l : List (List ByteArray), costL d l ≤ 3 * weighL l
  | [] => Nat.le_refl _
  | r :: l => by
    have h1 := costL_weigh d l
    have h2 := costR_weigh d r
    simp only [costL, weighL]
    omega
theorem textR_length (d : Int) (crlf : Bool) (l : List (List ByteArray)) (hr : ∀ r ∈ l, RowOk r) : (textR d crlf l).length = costL d l + (if crlf = true then l.length else 0) := recsR_cost d _ crlf l hr
theorem few_text (d : Int) (crlf : Bool) (l : List (List ByteArray)) (hf : FewP l) (hr : ∀ r ∈ l, RowOk r) : (textR d crlf l).length ≤ 24060 := by
  have h1 := textR_length d crlf l hr
  have h2 := costL_weigh d l
  obtain ⟨h3, _, h4⟩ := hf
  rw [h1]
  split <;> omega
end Go.Proofs.Ytggodagdfldndaa.Q.L.Z

/-! Of two texts that are printed, one behind the other, come the records of both: for every input the law answers true. Conditions: none. -/
namespace Go.Proofs.Ytggodagdfldndaa.Pure
open Go.RowKit Go.Proofs.Ytggodagdfldndaa.Q Go.Proofs.Ytggodagdfldndaa.Q.L Go.Proofs.Ytggodagdfldndaa.Q.L.Z Go.Proofs.YtggodagdfldndaaW.PrintWords Go.Proofs.YtggodagdfldndaaW.PrintLast

theorem two_texts (a b : List (List ByteArray)) (d : Int) (x y : Bool) (hd : (Lit.int .u8 d).wf = true) (hg : goodI d = true) (ha : ∀ r ∈ a, RowOk r) (hb : ∀ r ∈ b, RowOk r) (hl : a.length + b.length ≤ 2048) : parseF (textR d x a ++ textR d y b) d = (a ++ b, 0, 0) := by
  have := parse_rows d (UInt8.ofNat d.toNat) (byteI hd) hg ((a.map fun r => (r, x)) ++ (b.map fun r => (r, y))) (by
    intro p hp
    rcases List.mem_append.1 hp with hp | hp
    · obtain ⟨r, hr, rfl⟩ := List.mem_map.1 hp
      exact ha r hr
    · obtain ⟨r, hr, rfl⟩ := List.mem_map.1 hp
      exact hb r hr) (by simpa using hl)
  unfold textR
  rw [← recsR_append, this, List.map_append, List.map_map, List.map_map]
  rw [show (Prod.fst ∘ fun r => ((r, x) : List ByteArray × Bool)) = id from rfl, show (Prod.fst ∘ fun r => ((r, y) : List ByteArray × Bool)) = id from rfl, List.map_id, List.map_id]
theorem CsvJoins (a b : List (List ByteArray)) (d : Int) (x y : Bool) (ha : Sized a) (hb : Sized b) (hd : (Lit.int .u8 d).wf = true) : ∃ k, tartanlaw03_CsvJoins.f k a b d x y = some true := by
  refine ⟨5002, ?_⟩
  unfold tartanlaw03_CsvJoins.f
  obtain ⟨p, hp, hfa⟩ := few_f a ha 5002 (by omega)
  obtain ⟨q, hq, hfb⟩ := few_f b hb 5002 (by omega)
  have hno : tartanlaw03_CsvJoins.j0 5002 a b d x y true false = some true := by
    rw [tartanlaw03_CsvJoins.j0, if_neg (by decide)]
  rw [works03, Option.bind_some, if_pos rfl, hp, Option.bind_some]
  cases p with
  | false => rw [if_neg (by decide)]; exact hno
  | true =>
    have hfa := hfa rfl
    rw [if_pos rfl, hq, Option.bind_some]
    cases q with
    | false => exact hno
    | true =>
      have hfb := hfb rfl
      have la := hfa.1
      have lb := hfb.1
      rw [tartanlaw03_CsvJoins.j0, if_pos rfl, print_f a d x hd (by omega), Option.bind_some, print_f b d y hd (by omega), Option.bind_some]
      obtain ⟨⟨s, e⟩, hpa⟩ : ∃ q, printF a d x = q := ⟨_, rfl⟩
      obtain ⟨⟨t, f⟩, hpb⟩ : ∃ q, printF b d y = q := ⟨_, rfl⟩
      rw [hpa, hpb]
      dsimp only
      by_cases he : e = 0
      · subst he
        rw [if_pos rfl]
        by_cases hf : f = 0
        · subst hf
          obtain ⟨hg, hr, hl, rfl⟩ := printF_ok a d x hd s hpa
          obtain ⟨_, hr2, hl2, rfl⟩ := printF_ok b d y hd t hpb
          have h1 := few_text d x a hfa hr
          have h2 := few_text d y b hfb hr2
          have hsame := same_f (a ++ b) (a ++ b) (by simp; omega) 128 (fun r h => by
            rcases List.mem_append.1 h with h | h
            · exact (hr r h).2.1
            · exact (hr2 r h).2.1) (by omega) 5000 (by simp; omega)
          rw [tartanlaw03_CsvJoins.j1, if_neg (by decide), if_pos (by rw [size_ofBs, size_ofBs]; omega), ← ofBs_append, parse_f _ _ (by rw [size_ofBs, List.length_append]; omega), Option.bind_some, toBs_ofBs, two_texts a b d x y hd hg hr hr2 (by omega), Option.bind_some]
          dsimp only
          rw [List.nil_append, if_pos (by simp; omega), Option.bind_some, if_pos (by omega), hsame, Option.bind_some, if_pos rfl, if_pos rfl, if_pos rfl, decide_eq_true rfl]
        · rw [tartanlaw03_CsvJoins.j1, if_pos (by simpa using hf)]
      · rw [if_neg he, tartanlaw03_CsvJoins.j1, if_pos rfl]

end Go.Proofs.Ytggodagdfldndaa.Pure

/-! A list of strings among a law's arguments: opened as the printed walks want it, and read again afterwards. -/
namespace Go.Proofs.Ytggodagdfldndaa
open Go.ChangeShapes Go.WideShapes Go.ChangeAt Go.RowKit Go.Proofs.YtggodagdfldndaaW.PrintWords
theorem laidOut : laidOutB Try.prog = true := by kernel_rfl
theorem underlying38 : Try.prog.underlying 38 = some (.slice 9) := by kernel_rfl
theorem under9 : Try.prog.underlying 9 = some .string := by kernel_rfl
theorem cells9 : Try.prog.cellsOf 9 = 1 := by kernel_rfl
theorem open_strl {H : Type} {enc : TypeId × Value → H} {W : World} {base : Nat} {v0 : Value} {d0 : DataW H} {p0 : List MemPlace} (hv : Value.okWide Try.prog W .any base 38 v0)
    (h : DataW.Trod enc Try.prog W 0 (fun _ => true) true 38 v0 d0 p0) :
    ∃ (A : Option Addr) (l : List ByteArray) (cap : Nat), v0 = .slice A l.length cap ∧ l.length ≤ cap ∧ Kd.C Kd.string W A l.length l := by
  obtain ⟨a0, len, cap, rfl⟩ := okWide_slice underlying38 hv
  obtain ⟨fuel, hf⟩ := h
  rcases open_strings underlying38 under9 cells9 hf with ⟨hcs, hx⟩ | ⟨a, len', cap', ss, hcs, _, hl, hm, hz, hx, hcell, hsz⟩
  · simp [Value.cells] at hcs
    obtain ⟨rfl, rfl, rfl⟩ := hcs
    exact ⟨none, [], 0, rfl, Nat.le_refl _, Kd.C_of_reads (d := ByteArray.empty) ⟨rfl, Nat.zero_le _, fun h => by cases h⟩⟩
  · simp [Value.cells] at hcs
    obtain ⟨rfl, rfl, rfl⟩ := hcs
    have hz' : cap = ss.length ∨ len = ss.length := by
      split at hz
      · exact Or.inl hz.symm
      · exact Or.inr hz.symm
    have e : (ss.take len).length = len := by rw [List.length_take]; omega
    refine ⟨some a, ss.take len, cap, by rw [e], by rw [e]; exact hl, ?_⟩
    rw [e]
    refine Kd.C_of_reads (d := ByteArray.empty) ⟨e, ?_, fun _ => ⟨a, rfl, fun j hj => ?_⟩⟩
    · have : maxLen ≤ 9223372036854775807 := by decide
      have h9 := Nat.le_trans hm this
      clear this hm
      exact Nat.le_trans hl h9
    · rw [hcell j (by omega)]
      have h3 : (ss.take len).getD j ByteArray.empty = ss.getD j ByteArray.empty := by
        rw [List.getD_eq_getElem?_getD, List.getD_eq_getElem?_getD, List.getElem?_take_of_lt hj]
      rw [h3]
/-- It is read again as before, where nothing of it was written. -/
theorem again_strl {H : Type} {enc : TypeId × Value → H} {W W' : World} {v0 : Value} {d0 : DataW H} {p0 : List MemPlace} (h : DataW.Trod enc Try.prog W 0 (fun _ => true) true 38 v0 d0 p0)
    (hb : Below W.heap.size W W') (hlt : ∀ x ∈ p0, x.block < W.heap.size) : DataW.Trod enc Try.prog W' 0 (fun b => decide (b < W.heap.size)) true 38 v0 d0 p0 :=
  Below.trod laidOut (by kernel_rfl) (of_decide_eq_true (by kernel_rfl)) h hb hlt
end Go.Proofs.Ytggodagdfldndaa

/-! A list of lists of strings among a law's arguments: opened as the printed walks want it, and read again afterwards. -/
namespace Go.Proofs.Ytggodagdfldndaa
open Go.ChangeShapes Go.WideShapes Go.ChangeAt Go.RowKit Go.Proofs.YtggodagdfldndaaW.PrintWords
theorem underlying41 : Try.prog.underlying 41 = some (.slice 38) := by kernel_rfl
theorem cells38 : Try.prog.cellsOf 38 = 1 := by kernel_rfl
theorem weights_strs {H : Type} (P : Program) (e : TypeId) : ∀ (ss : List ByteArray), ∀ y ∈ ss, y.size ∈ DataW.weightsAll P e (strs (H := H) ss)
  | [], _, h => by cases h
  | s :: ss, y, h => by
    show y.size ∈ _ ++ _
    rcases List.mem_cons.1 h with rfl | h
    · exact List.mem_append_left _ (by simp [DataW.weights])
    · exact List.mem_append_right _ (weights_strs P e ss y h)
theorem weights_all {H : Type} (P : Program) (e : TypeId) : ∀ (ds : List (DataW H)) (d : DataW H), d ∈ ds → ∀ n ∈ d.weights P e, n ∈ DataW.weightsAll P e ds
  | [], _, h, _, _ => by cases h
  | d0 :: ds, d, h, n, hn => by
    show n ∈ _ ++ _
    rcases List.mem_cons.1 h with rfl | h
    · exact List.mem_append_left _ hn
    · exact List.mem_append_right _ (weights_all P e ds d h n hn)
theorem open_strs1 {H : Type} {enc : TypeId × Value → H} {W : World} {fuel : Nat} {v : Value} {x : DataW H × List MemPlace} (h : DataW.trod enc Try.prog W 0 (fun _ => true) true fuel 38 [v] = some x) :
    ∃ (A : Option Addr) (l : List ByteArray) (c : Nat), v = .slice A l.length c ∧ l.length ≤ c ∧ Kd.C Kd.string W A l.length l ∧ ∀ y ∈ l, y.size ∈ x.1.weights Try.prog 38 := by
  rcases open_strings underlying38 under9 cells9 h with ⟨hcs, hx⟩ | ⟨a, len, cap, ss, hcs, _, hl, hm, hz, hx, hcell, hsz⟩
  · injection hcs with hcs _
    subst hcs
    exact ⟨none, [], 0, rfl, Nat.le_refl _, Kd.C_of_reads (d := ByteArray.empty) ⟨rfl, Nat.zero_le _, fun h => by cases h⟩, by simp⟩
  · injection hcs with hcs _
    subst hcs
    have hz' : cap = ss.length ∨ len = ss.length := by
      split at hz
      · exact Or.inl hz.symm
      · exact Or.inr hz.symm
    have e : (ss.take len).length = len := by rw [List.length_take]; omega
    refine ⟨some a, ss.take len, cap, by rw [e], by rw [e]; exact hl, ?_, ?_⟩
    · rw [e]
      refine Kd.C_of_reads (d := ByteArray.empty) ⟨e, ?_, fun _ => ⟨a, rfl, fun j hj => ?_⟩⟩
      · have : maxLen ≤ 9223372036854775807 := by decide
        have h9 := Nat.le_trans hm this
        clear this hm
        exact Nat.le_trans hl h9
      · rw [hcell j (by omega)]
        have h3 : (ss.take len).getD j ByteArray.empty = ss.getD j ByteArray.empty := by
          rw [List.getD_eq_getElem?_getD, List.getD_eq_getElem?_getD, List.getElem?_take_of_lt hj]
        rw [h3]
    · intro y hy
      rw [hx]
      unfold DataW.weights
      rw [underlying38]
      exact List.mem_cons_of_mem _ (List.mem_append_left _ (weights_strs _ _ _ y hy))
theorem open_strll {H : Type} {enc : TypeId × Value → H} {W : World} {base : Nat} {v0 : Value} {d0 : DataW H} {p0 : List MemPlace} (hv : Value.okWide Try.prog W .any base 41 v0)
    (h : DataW.Trod enc Try.prog W 0 (fun _ => true) true 41 v0 d0 p0) (hw : ∀ n ∈ d0.weights Try.prog 41, n ≤ reachBytes) :
    ∃ (A : Option Addr) (l : List (List ByteArray)) (cap : Nat), v0 = .slice A l.length cap ∧ l.length ≤ cap ∧ Kd.C (Kd.slice 9 Kd.string) W A l.length l ∧ ∀ r ∈ l, ∀ x ∈ r, x.size ≤ 140737488351232 := by
  obtain ⟨a0, len, cap, rfl⟩ := okWide_slice underlying41 hv
  obtain ⟨fuel, hf⟩ := h
  rcases Go.Deep.open_slice1 underlying41 cells38 hf with ⟨hcs, hx⟩ | ⟨a, len', cap', m, n, V, D, Pl, hcs, _, hl, hm, hmm, hx, hel⟩
  · simp [Value.cells] at hcs
    obtain ⟨rfl, rfl, rfl⟩ := hcs
    exact ⟨none, [], 0, rfl, Nat.le_refl _, Kd.C_nil _ _, by simp⟩
  · simp [Value.cells] at hcs
    obtain ⟨rfl, rfl, rfl⟩ := hcs
    have hlm : len ≤ m := by
      split at hmm <;> omega
    have hex : ∀ i, ∃ p : Option Addr × List ByteArray × Nat, i < m → V i = .slice p.1 p.2.1.length p.2.2 ∧ p.2.1.length ≤ p.2.2 ∧ Kd.C Kd.string W p.1 p.2.1.length p.2.1 ∧ ∀ y ∈ p.2.1, y.size ∈ (D i).weights Try.prog 38 := by
      intro i
      by_cases hi : i < m
      · obtain ⟨A, l, c, h1, h2, h3, h4⟩ := open_strs1 (hel i hi).2
        exact ⟨(A, l, c), fun _ => ⟨h1, h2, h3, h4⟩⟩
      · exact ⟨(none, [], 0), fun h => absurd h hi⟩
    obtain ⟨F, hF⟩ := Classical.skolem.1 hex
    have e : ((List.range len).map fun i => (F i).2.1).length = len := by simp
    refine ⟨some a, (List.range len).map fun i => (F i).2.1, cap, by rw [e], by rw [e]; exact hl, ?_, ?_⟩
    · rw [e]
      refine ⟨e, ?_, fun _ => ⟨a, rfl, fun j p hj => ?_⟩⟩
      · have : maxLen ≤ 9223372036854775807 := by decide
        have h9 := Nat.le_trans hm this
        clear this hm
        exact Nat.le_trans hl h9
      · rw [List.getElem?_map] at hj
        obtain ⟨j', hj', rfl⟩ := Option.map_eq_some_iff.1 hj
        obtain ⟨hjl, he⟩ := List.getElem?_eq_some_iff.1 hj'
        rw [List.getElem_range] at he
        subst he
        rw [List.length_range] at hjl
        obtain ⟨g1, g2, g3, _⟩ := hF j (by omega)
        refine ⟨[V j], rfl, ⟨(F j).1, (F j).2.2, by rw [g1], g2, g3⟩, fun i u hu => ?_⟩
        cases i with
        | zero =>
          simp only [List.getElem?_cons_zero, Option.some.injEq] at hu
          subst hu
          show W.cell? (a.add (j * 1 + 0)) = _
          rw [Nat.mul_one, Nat.add_zero]
          exact (hel j (by omega)).1
        | succ i => simp at hu
    · intro r hr x hxr
      obtain ⟨j, hj, rfl⟩ := List.mem_map.1 hr
      rw [List.mem_range] at hj
      have h5 := (hF j (by omega)).2.2.2 x hxr
      refine hw _ ?_
      rw [(Prod.mk.inj hx).1]
      unfold DataW.weights
      rw [underlying41]
      exact List.mem_cons_of_mem _ (List.mem_append_left _ (weights_all _ _ _ _ (List.mem_map.2 ⟨j, List.mem_range.2 hj, rfl⟩) _ h5))
/-- It is read again as before, where nothing of it was written. -/
theorem again_strll {H : Type} {enc : TypeId × Value → H} {W W' : World} {v0 : Value} {d0 : DataW H} {p0 : List MemPlace} (h : DataW.Trod enc Try.prog W 0 (fun _ => true) true 41 v0 d0 p0)
    (hb : Below W.heap.size W W') (hlt : ∀ x ∈ p0, x.block < W.heap.size) : DataW.Trod enc Try.prog W' 0 (fun b => decide (b < W.heap.size)) true 41 v0 d0 p0 :=
  Below.trod laidOut (by kernel_rfl) (of_decide_eq_true (by kernel_rfl)) h hb hlt
/-- What it weighs is bounded. -/
theorem weight_le {H : Type} {P : Program} {ts : List TypeId} {ds : List (DataW H)} (h : (DataW.weightsEach P ts ds).all (· ≤ reachBytes) = true) {j : Nat} {t : TypeId} {d : DataW H} (ht : ts[j]? = some t) (hd : ds[j]? = some d) : ∀ n ∈ d.weights P t, n ≤ reachBytes := fun n hn => by
  have := List.all_eq_true.1 h _ (DataW.weights_mem_each ht hd n hn)
  simpa using this
end Go.Proofs.Ytggodagdfldndaa

/-! A list of lists among a law's arguments, as one that may be shared. -/
namespace Go.Proofs.Ytggodagdfldndaa
open Go.RowKit Go.Proofs.YtggodagdfldndaaW.PrintWords
theorem args_V {W : World} {A : Option Addr} {c : Nat} {l : List (List ByteArray)} (h : Kd.C (Kd.slice 9 Kd.string) W A l.length l) (hc : l.length ≤ c) : Kd.V (Kd.slice 9 Kd.string) 38 W W.heap.size (fun _ => True) (.slice A l.length c) l := by
  refine Kd.V_mk hc (fun W' hW => ?_)
  have hs : W.heap.size ≤ W'.heap.size := by
    rcases Nat.lt_or_ge W'.heap.size W.heap.size with hlt | hge
    · have := hW W'.heap.size trivial hlt
      rw [Array.getElem?_eq_none (Nat.le_refl _), Array.getElem?_eq_getElem hlt] at this
      cases this
    · exact hge
  have hb : Below W.heap.size W { W with heap := W'.heap } := ⟨rfl, rfl, rfl, hs, fun k hk => hW k trivial hk⟩
  have h2 : Kd.C (Kd.slice 9 Kd.string) { W with heap := W'.heap } A l.length l := Kd.C_below h hb
  exact h2
end Go.Proofs.Ytggodagdfldndaa

namespace Go.Proofs.Ytggodagdfldndaa.csvJoins
open Go.ChangeShapes Go.WideShapes Go.ChangeAt Go.RowKit
open Go.ChangeMaps (open_string shut_string)
set_option linter.unusedVariables false
theorem own : ownKnob Try.prog.godebug = none := by kernel_rfl
set_option maxRecDepth 100000 in
theorem lifted (os : Os) (started : os.Started) (H : Type) (enc : TypeId × Value → H) :
    ReturnsInHanded {} Try.checked os 16 .any (Rows.csvJoinsSpec.pre6 enc Try.prog Try.f16 Rows.csvJoinsRow.domain false) (Rows.csvJoinsSpec.post enc Try.prog Try.f16 false true false false) := by
  refine returnsInHanded_of_change_sized (C := Try.checked) own started (by kernel_rfl) Try.func16
    (ChangeSpec.witness6 (enc := enc) (C := Try.checked) false ⟨#[], #[.slice none 0 0, .slice none 0 0, .int .u8 0, .bool false, .bool false], []⟩ 8 (by kernel_rfl) (by kernel_rfl) (by kernel_rfl) (by kernel_rfl)) ?_
  intro W base args ds gs before hval0 hW hcnd hsz0 _
  have hsz : (DataW.weightsEach Try.prog (Try.f16.params.toList ++ Rows.csvJoinsSpec.plain.varTypes Try.prog) (ds ++ gs)).all (· ≤ reachBytes) = true := hsz0
  have hval : ∀ (j : Nat) t v, Try.f16.params[j]? = some t → args[j]? = some v → Value.okWide Try.prog W .any base t v := hval0
  have hW' := hW
  obtain ⟨p, q, hA0, hV, rfl, hfz, hnd⟩ := hW
  have hA : DataW.TrodAll enc Try.prog W 0 (fun _ => true) true Try.f16.params.toList args.toList ds p := hA0
  rw [Try.params16] at hA hval hsz
  obtain ⟨v0, vs0, d0, ds0, p0, q0, hargs, rfl, rfl, h0, r0⟩ := trodAll_cons hA
  obtain ⟨v1, vs1, d1, ds1, p1, q1, rfl, rfl, rfl, h1, r1⟩ := trodAll_cons r0
  obtain ⟨v2, vs2, d2, ds2, p2, q2, rfl, rfl, rfl, h2, r2⟩ := trodAll_cons r1
  obtain ⟨v3, vs3, d3, ds3, p3, q3, rfl, rfl, rfl, h3, r3⟩ := trodAll_cons r2
  obtain ⟨v4, vs4, d4, ds4, p4, q4, rfl, rfl, rfl, h4, r4⟩ := trodAll_cons r3
  obtain ⟨rfl, rfl, rfl⟩ := trodAll_nil r4
  obtain rfl : args = #[v0, v1, v2, v3, v4] := by cases args; simp_all
  obtain ⟨rfl, rfl⟩ := trodVars_none hV
  have g0 := h0
  obtain ⟨A0, l0, c0, rfl, hc0, hr0, z0⟩ := open_strll (hval 0 41 v0 rfl rfl) h0 (weight_le hsz (j := 0) rfl rfl)
  have hlt0 : ∀ x ∈ p0, x.block < W.heap.size := fun x hx => hW'.lt x (by simp [hx])
  have g1 := h1
  obtain ⟨A1, l1, c1, rfl, hc1, hr1, z1⟩ := open_strll (hval 1 41 v1 rfl rfl) h1 (weight_le hsz (j := 1) rfl rfl)
  have hlt1 : ∀ x ∈ p1, x.block < W.heap.size := fun x hx => hW'.lt x (by simp [hx])
  obtain ⟨a2, rfl, rfl, rfl, w2⟩ := open_int Try.underlying5 (hval 2 5 v2 rfl rfl) h2
  obtain ⟨a3, rfl, rfl, rfl⟩ := open_bool Try.underlying4 (hval 3 4 v3 rfl rfl) h3
  obtain ⟨a4, rfl, rfl, rfl⟩ := open_bool Try.underlying4 (hval 4 4 v4 rfl rfl) h4
  clear hA0 hval0 hsz0 hsz
  obtain ⟨k, hk⟩ := Pure.CsvJoins l0 l1 a2 a3 a4 z0 z1 w2
  refine (Q.L.Z.tartanlaw03_CsvJoins.calls k (fun _ => True) A0 c0 l0 (fun _ => True) A1 c1 l1 a2 a3 a4 true W (args_V hr0 hc0) (args_V hr1 hc1) hk).mono fun e W' ⟨he, bel⟩ => ?_
  subst he
  exact ⟨_, rfl, _, _, _, [], _, [], hW', trodAll_mk1 (shut_bool Try.underlying4 _), (trodAll_cons_mk (again_strll g0 bel hlt0) (trodAll_cons_mk (again_strll g1 bel hlt1) (trodAll_cons_mk (shut_int Try.underlying5 w2) (trodAll_cons_mk (shut_bool Try.underlying4 _) (trodAll_cons_mk (shut_bool Try.underlying4 _) trodAll_mk0))))), rfl, bel.frame _, fun h => by cases h⟩
theorem over : Rows.csvJoinsRow.holds Try.pinned (OpenSpec.ofChange Rows.csvJoinsSpec) :=
  OpenClaim.holds_of_wide 16 Try.f16 rfl rfl rfl rfl rfl rfl rfl ⟨rfl, rfl, rfl, rfl, rfl⟩ rfl rfl rfl rfl rfl (by kernel_rfl) Try.func16 (by kernel_rfl)
    (of_decide_eq_true (by kernel_rfl)) (by unfold Func.isWrapper; first | (rw [if_pos (by decide +kernel)]; kernel_rfl) | (rw [if_neg (by decide +kernel)]; exact ⟨rfl, rfl⟩))
    (fun os started H enc _ => lifted os started H enc)
theorem proved : Rows.CsvJoinsSaid := over
#print axioms proved
end Go.Proofs.Ytggodagdfldndaa.csvJoins
namespace Go.Proofs.Ytggodagdfldndaa
/-- The row, under a short name, for the claim. -/
theorem csvJoins_holds : Rows.CsvJoinsSaid := csvJoins.proved
end Go.Proofs.Ytggodagdfldndaa
