/- The law CsvApart of the given statements: for every input it answers true, and its arguments read afterwards as before: Records that are unlike have unlike texts. Conditions: none but those of the given statement itself. -/
import Derived.Test.YtggodagdfldndaaJCsvApart5
import Derived.Test.YtggodagdfldndaaJCsvApart6
import Derived.Test.YtggodagdfldndaaJCsvApart4
import Derived.Test.YtggodagdfldndaaJCsvApart2
import Derived.Test.YtggodagdfldndaaRows
import Derived.ProofKit
import Derived.SliceStrings
import Derived.Deep.Slices
import Derived.WalkKit
import Derived.OpenShut
import Derived.ShutString
import Derived.ChangeOld
import Derived.Below
import Derived.SizedLaws
set_option linter.unusedVariables false
set_option linter.unusedSimpArgs false
/-! Walks of Go functions of this seat against plain Lean functions, written by a program of this session (the kit's print, with hand-proved contracts for what it does not take). Lean checks them. -/
namespace Go.Proofs.Ytggodagdfldndaa.Q.L.Z
open Go.RowKit Go.Proofs.YtggodagdfldndaaW.PrintWords Go.Proofs.YtggodagdfldndaaW.PrintLast Go.Proofs.YtggodagdfldndaaW.PrintMore
attribute [local go_sem] max2_int min2_int max_two min_two max_three min_three max_four min_four   -- for this text's walks alone
set_option linter.unusedVariables false
set_option linter.unusedSimpArgs false

/-! ### tartanlaw03_CsvApart: function 19 -/
def tartanlaw03_CsvApart.j0 : Nat → List (List ByteArray) → List (List ByteArray) → Int → Bool → Bool → Bool → Option (Bool)
  | 0, _, _, _, _, _, _ => none
  | k + 1, x0, x1, x2, x3, x9, x10 => if x10 = true then ((csv_Print.f x0 x2 x3).bind fun bt263 => ((csv_Print.f x1 x2 x3).bind fun bt265 => (if bt263.2 = 0 then (if bt265.2 = 0 then (if x9 = true then ((csv_Same.f x0 x1).bind fun t267 => (some ((bt263.1.toList == bt265.1.toList) == t267))) else (some false)) else (some x9)) else (some x9)))) else (some x9)
def tartanlaw03_CsvApart.f (k : Nat) (l0 : List (List ByteArray)) (l1 : List (List ByteArray)) (a2 : Int) (a3 : Bool) : Option (Bool) := (tartanlaw03_works.f).bind fun t260 => (if t260 = true then ((tartanref03_Few.f k l0).bind fun t261 => (if t261 = true then ((tartanref03_Few.f k l1).bind fun t262 => (tartanlaw03_CsvApart.j0 k l0 l1 a2 a3 t260 t262)) else (tartanlaw03_CsvApart.j0 k l0 l1 a2 a3 t260 false))) else (some false))
theorem tartanlaw03_CsvApart.mono_l : ∀ k, (∀ y0 y1 y2 y3 y4 y5, LeO (tartanlaw03_CsvApart.j0 k y0 y1 y2 y3 y4 y5) (tartanlaw03_CsvApart.j0 (k + 1) y0 y1 y2 y3 y4 y5))
  | 0 => fun _ _ _ _ _ _ r h => by simp [tartanlaw03_CsvApart.j0] at h
  | k + 1 => by
    have ih0 := tartanlaw03_CsvApart.mono_l k
    · intro y0 y1 y2 y3 y4 y5
      unfold tartanlaw03_CsvApart.j0
      repeat' first
      | (with_reducible exact ih0 _ _ _ _ _ _)
      | (with_reducible exact tartanref03_Few.mono _ _)
      | (with_reducible exact LeO.refl _)
      | (with_reducible exact LeO.none _)
      | (with_reducible refine LeO.ite ?_ ?_)
      | (with_reducible refine LeO.bind ?_ (fun _ => ?_))
      | exact ih0 _ _ _ _ _ _
      | exact tartanref03_Few.mono _ _
      | exact LeO.none _
      | refine LeO.ite ?_ ?_
      | refine LeO.bind ?_ (fun _ => ?_)
theorem tartanlaw03_CsvApart.mono : ∀ a0 a1 a2 a3 k, LeO (tartanlaw03_CsvApart.f k a0 a1 a2 a3) (tartanlaw03_CsvApart.f (k + 1) a0 a1 a2 a3) := by
  intro a0 a1 a2 a3 k
  have ih0 := tartanlaw03_CsvApart.mono_l k
  unfold tartanlaw03_CsvApart.f
  repeat' first
      | (with_reducible exact ih0 _ _ _ _ _ _)
      | (with_reducible exact tartanref03_Few.mono _ _)
      | (with_reducible exact LeO.refl _)
      | (with_reducible exact LeO.none _)
      | (with_reducible refine LeO.ite ?_ ?_)
      | (with_reducible refine LeO.bind ?_ (fun _ => ?_))
      | exact ih0 _ _ _ _ _ _
      | exact tartanref03_Few.mono _ _
      | exact LeO.none _
      | refine LeO.ite ?_ ?_
      | refine LeO.bind ?_ (fun _ => ?_)
set_option maxHeartbeats 8000000 in
set_option maxRecDepth 100000 in
theorem tartanlaw03_CsvApart.calls (k : Nat) (A0 : Option Addr) (c0 : Nat) (l0 : List (List ByteArray)) (A1 : Option Addr) (c1 : Nat) (l1 : List (List ByteArray)) (a2 : Int) (a3 : Bool) (r : Bool) (w : World) (hr0 : Kd.C (Kd.slice 9 Kd.string) w A0 l0.length l0) (hc0 : l0.length ≤ c0) (hr1 : Kd.C (Kd.slice 9 Kd.string) w A1 l1.length l1) (hc1 : l1.length ≤ c1) (h : tartanlaw03_CsvApart.f k l0 l1 a2 a3 = some r) :
    Calls Try.prog 19 #[.slice A0 l0.length c0, .slice A1 l1.length c1, .int .u8 a2, .bool a3] w fun e w' => e = .returned (.bool r) ∧ Below w.heap.size w w' := by
  have HR0 := Aside0.mk hr0
  have HC0 := Aside0.mk hc0
  clear hr0 hc0
  have HR1 := Aside0.mk hr1
  have HC1 := Aside0.mk hc1
  clear hr1 hc1
  have HB := Aside0.mk (Below.refl w.heap.size w)
  have H : ((tartanlaw03_works.f).bind fun t260 => (if t260 = true then ((tartanref03_Few.f k l0).bind fun t261 => (if t261 = true then ((tartanref03_Few.f k l1).bind fun t262 => (tartanlaw03_CsvApart.j0 k l0 l1 a2 a3 t260 t262)) else (tartanlaw03_CsvApart.j0 k l0 l1 a2 a3 t260 false))) else (some false))) = some r := h
  clear h
  replace H := Option.bind_eq_some_iff.mp H
  obtain ⟨t260, A50, H⟩ := H
  replace H : (if t260 = true then ((tartanref03_Few.f k l0).bind fun t261 => (if t261 = true then ((tartanref03_Few.f k l1).bind fun t262 => (tartanlaw03_CsvApart.j0 k l0 l1 a2 a3 t260 t262)) else (tartanlaw03_CsvApart.j0 k l0 l1 a2 a3 t260 false))) else (some false)) = some r := H
  have A5 := Aside0.mk A50
  clear A50
  by_cases c6 : t260 = true
  · subst c6
    have H1 : ((tartanref03_Few.f k l0).bind fun t261 => (if t261 = true then ((tartanref03_Few.f k l1).bind fun t262 => (tartanlaw03_CsvApart.j0 k l0 l1 a2 a3 true t262)) else (tartanlaw03_CsvApart.j0 k l0 l1 a2 a3 true false))) = some r := by rw [if_pos rfl] at H; exact H
    clear H
    have H := H1
    clear H1
    have HC7 := Aside0.mk H
    clear H
    go_enter Try.func19, Try.ntmps19
    go_upto_region 4 with (first | ((with_reducible refine gate_callee (f := 39) rfl ?_); refine goesL_ (some 15) rfl rfl Try.func39 (by kernel_rfl) rfl #[] rfl (by (try simp only [List.map_toArray, List.map_cons, List.map_nil]); first | done | rfl | (simp only [List.length_drop, List.length_take]; rfl)) ?_; (with_reducible refine (tartanlaw03_works.calls  true _ A5.out).mono ?_); rintro e w8 ⟨rfl, hb⟩; refine ⟨_, rfl, ?_⟩; have n0_ := Aside0.mk (below_step (by repeat (first | (with_reducible first | exact HB.out | apply below_alloc | apply pw_below_drewN | apply below_drew1) | exact HB.out)) hb); clear HB; have HB := n0_; clear n0_; (try clear hb); (try clear hb2); (try clear hk); (try clear hi)))
    (try simp only [Act.put, List.setIfInBounds_toArray, List.set_cons_zero, List.set_cons_succ])
    go_cut [10] (fun v10 wc => ∃ (kq : Nat) (x10_6 : Bool), v10 = .bool x10_6 ∧ Aside0 (tartanlaw03_CsvApart.j0 kq l0 l1 a2 a3 true x10_6 = some r) ∧ Aside0 (kq ≤ k) ∧ Aside0 (Below w.heap.size w wc))
    case first =>
      have H := HC7.out
      clear HC7
      replace H := Option.bind_eq_some_iff.mp H
      obtain ⟨t261, A90, H⟩ := H
      replace H : (if t261 = true then ((tartanref03_Few.f k l1).bind fun t262 => (tartanlaw03_CsvApart.j0 k l0 l1 a2 a3 true t262)) else (tartanlaw03_CsvApart.j0 k l0 l1 a2 a3 true false)) = some r := H
      have A9 := Aside0.mk A90
      clear A90
      by_cases c10 : t261 = true
      · subst c10
        have H1 : ((tartanref03_Few.f k l1).bind fun t262 => (tartanlaw03_CsvApart.j0 k l0 l1 a2 a3 true t262)) = some r := by rw [if_pos rfl] at H; exact H
        clear H
        have H := H1
        clear H1
        replace H := Option.bind_eq_some_iff.mp H
        obtain ⟨t262, A110, H⟩ := H
        replace H : (tartanlaw03_CsvApart.j0 k l0 l1 a2 a3 true t262) = some r := H
        have A11 := Aside0.mk A110
        clear A110
        have H' := Aside0.mk H
        clear H
        go_wp2_with (first | ((with_reducible refine gate_callee (f := 43) rfl ?_); refine goesL_ (some 19) rfl rfl Try.func43 (by kernel_rfl) rfl #[.slice A0 l0.length c0] rfl (by (try simp only [List.map_toArray, List.map_cons, List.map_nil]); first | done | rfl | (simp only [List.length_drop, List.length_take]; rfl)) ?_; (with_reducible refine (tartanref03_Few.calls k _ _ l0 true _ ?side1 ?side2 A9.out).mono ?_); (case side1 => repeat (first | exact (Kd.C_below HR0.out HB.out) | (with_reducible refine Kd.C_alloc ?_ _) | (with_reducible refine Kd.C_drewN ?_ _) | (with_reducible refine Kd.C_drew ?_))); (case side2 => exact HC0.out); rintro e w' ⟨rfl, ⟨nd, rfl⟩⟩; refine ⟨_, rfl, ?_⟩) | (go_at_call 43; (with_reducible refine (tartanref03_Few.calls k _ _ l1 t262 _ ?side1 ?side2 A11.out).mono ?_); (case side1 => repeat (first | exact (Kd.C_below HR1.out (by repeat (first | (with_reducible first | exact HB.out | apply below_alloc | apply pw_below_drewN | apply below_drew1) | exact HB.out))) | (with_reducible refine Kd.C_alloc ?_ _) | (with_reducible refine Kd.C_drewN ?_ _) | (with_reducible refine Kd.C_drew ?_))); (case side2 => exact HC1.out); rintro e w' ⟨rfl, ⟨nd, rfl⟩⟩))
        go_meet
        case rel => exact ⟨_, (t262), (by first | rfl | (simp; done) | (simp [*]; done)), H', ⟨by first | omega | exact Nat.le_refl _⟩, ⟨by repeat (first | (with_reducible first | exact HB.out | apply below_alloc | apply pw_below_drewN | apply below_drew1) | exact HB.out)⟩⟩
      · replace c10 := Bool.eq_false_iff.mpr c10
        subst c10
        have H1 : (tartanlaw03_CsvApart.j0 k l0 l1 a2 a3 true false) = some r := by rw [if_neg (show ¬ (false = true) by decide)] at H; exact H
        clear H
        have H := H1
        clear H1
        have H' := Aside0.mk H
        clear H
        go_wp2_with (first | ((with_reducible refine gate_callee (f := 43) rfl ?_); refine goesL_ (some 19) rfl rfl Try.func43 (by kernel_rfl) rfl #[.slice A0 l0.length c0] rfl (by (try simp only [List.map_toArray, List.map_cons, List.map_nil]); first | done | rfl | (simp only [List.length_drop, List.length_take]; rfl)) ?_; (with_reducible refine (tartanref03_Few.calls k _ _ l0 false _ ?side1 ?side2 A9.out).mono ?_); (case side1 => repeat (first | exact (Kd.C_below HR0.out HB.out) | (with_reducible refine Kd.C_alloc ?_ _) | (with_reducible refine Kd.C_drewN ?_ _) | (with_reducible refine Kd.C_drew ?_))); (case side2 => exact HC0.out); rintro e w' ⟨rfl, ⟨nd, rfl⟩⟩; refine ⟨_, rfl, ?_⟩))
        go_meet
        case rel => exact ⟨_, (false), (by first | rfl | (simp; done) | (simp [*]; done)), H', ⟨by first | omega | exact Nat.le_refl _⟩, ⟨by repeat (first | (with_reducible first | exact HB.out | apply below_alloc | apply pw_below_drewN | apply below_drew1) | exact HB.out)⟩⟩
    case rest =>
      clear HC7
      try clear c1
      try clear p2
      try clear c3
      try clear c4
      try clear c6
      try clear c10
      obtain ⟨kq, x10_6, rfl, HA, HJ6, HB⟩ := hcut
      cases kq with
      | zero => exact absurd HA.out (by simp [tartanlaw03_CsvApart.j0])
      | succ kj6 =>
        have H := HA.out
        clear HA
        simp only [tartanlaw03_CsvApart.j0] at H
        by_cases c12 : x10_6 = true
        · subst c12
          have H1 : ((csv_Print.f l0 a2 a3).bind fun bt263 => ((csv_Print.f l1 a2 a3).bind fun bt265 => (if bt263.2 = 0 then (if bt265.2 = 0 then (if true = true then ((csv_Same.f l0 l1).bind fun t267 => (some ((bt263.1.toList == bt265.1.toList) == t267))) else (some false)) else (some true)) else (some true)))) = some r := by rw [if_pos rfl] at H; exact H
          clear H
          have H := H1
          clear H1
          replace H := Option.bind_eq_some_iff.mp H
          obtain ⟨⟨t263, t264⟩, A130, H⟩ := H
          replace H : ((csv_Print.f l1 a2 a3).bind fun bt265 => (if t264 = 0 then (if bt265.2 = 0 then (if true = true then ((csv_Same.f l0 l1).bind fun t267 => (some ((t263.toList == bt265.1.toList) == t267))) else (some false)) else (some true)) else (some true))) = some r := H
          have A13 := Aside0.mk A130
          clear A130
          replace H := Option.bind_eq_some_iff.mp H
          obtain ⟨⟨t265, t266⟩, A140, H⟩ := H
          replace H : (if t264 = 0 then (if t266 = 0 then (if true = true then ((csv_Same.f l0 l1).bind fun t267 => (some ((t263.toList == t265.toList) == t267))) else (some false)) else (some true)) else (some true)) = some r := H
          have A14 := Aside0.mk A140
          clear A140
          by_cases c15 : t264 = 0
          · rw [if_pos c15] at H
            have c15b0 : (t264 == 0) = true := beq_iff_eq.mpr c15
            have c15b1 : (t264 != 0) = false := bne_eq_false_iff_eq.mpr c15
            clear c15
            by_cases c16 : t266 = 0
            · rw [if_pos c16] at H
              have c16b0 : (t266 == 0) = true := beq_iff_eq.mpr c16
              have c16b1 : (t266 != 0) = false := bne_eq_false_iff_eq.mpr c16
              clear c16
              have H1 : ((csv_Same.f l0 l1).bind fun t267 => (some ((t263.toList == t265.toList) == t267))) = some r := by first | (rw [if_pos rfl] at H; exact H) | (rw [if_pos trivial] at H; exact H) | (rw [if_neg not_false] at H; exact H) | simpa using H
              clear H
              have H := H1
              clear H1
              replace H := Option.bind_eq_some_iff.mp H
              obtain ⟨t267, A170, H⟩ := H
              replace H : (some ((t263.toList == t265.toList) == t267)) = some r := H
              have A17 := Aside0.mk A170
              clear A170
              obtain rfl := Option.some.inj H
              go_wp2_with (first | ((with_reducible refine gate_callee (f := 44) rfl ?_); refine goesL_ (some 31) rfl rfl Try.func44 (by kernel_rfl) rfl #[.slice A0 l0.length c0, .int .u8 a2, .bool a3] rfl (by (try simp only [List.map_toArray, List.map_cons, List.map_nil]); first | done | rfl | (simp only [List.length_drop, List.length_take]; rfl)) ?_; (with_reducible refine (csv_Print.calls _ _ l0 a2 a3 t263 t264 _ ?side1 ?side2 A13.out).mono ?_); (case side1 => repeat (first | exact (Kd.C_below HR0.out HB.out) | (with_reducible refine Kd.C_alloc ?_ _) | (with_reducible refine Kd.C_drewN ?_ _) | (with_reducible refine Kd.C_drew ?_))); (case side2 => exact HC0.out); rintro e w18 ⟨rfl, hb⟩; refine ⟨_, rfl, ?_⟩; have n0_ := Aside0.mk (below_step (by repeat (first | (with_reducible first | exact HB.out | apply below_alloc | apply pw_below_drewN | apply below_drew1) | exact HB.out)) hb); clear HB; have HB := n0_; clear n0_; (try clear hb); (try clear hb2); (try clear hk); (try clear hi)) | ((with_reducible refine gate_callee (f := 44) rfl ?_); refine goesL_ (some 38) rfl rfl Try.func44 (by kernel_rfl) rfl #[.slice A1 l1.length c1, .int .u8 a2, .bool a3] rfl (by (try simp only [List.map_toArray, List.map_cons, List.map_nil]); first | done | rfl | (simp only [List.length_drop, List.length_take]; rfl)) ?_; (with_reducible refine (csv_Print.calls _ _ l1 a2 a3 t265 t266 _ ?side1 ?side2 A14.out).mono ?_); (case side1 => repeat (first | exact (Kd.C_below HR1.out HB.out) | (with_reducible refine Kd.C_alloc ?_ _) | (with_reducible refine Kd.C_drewN ?_ _) | (with_reducible refine Kd.C_drew ?_))); (case side2 => exact HC1.out); rintro e w19 ⟨rfl, hb⟩; refine ⟨_, rfl, ?_⟩; have n0_ := Aside0.mk (below_step (by repeat (first | (with_reducible first | exact HB.out | apply below_alloc | apply pw_below_drewN | apply below_drew1) | exact HB.out)) hb); clear HB; have HB := n0_; clear n0_; (try clear hb); (try clear hb2); (try clear hk); (try clear hi)) | (go_at_call 46; (with_reducible refine (csv_Same.calls _ _ l0 _ _ l1 t267 _ ?side1 ?side2 ?side3 ?side4 A17.out).mono ?_); (case side1 => repeat (first | exact (Kd.C_below HR0.out HB.out) | (with_reducible refine Kd.C_alloc ?_ _) | (with_reducible refine Kd.C_drewN ?_ _) | (with_reducible refine Kd.C_drew ?_))); (case side2 => exact HC0.out); (case side3 => repeat (first | exact (Kd.C_below HR1.out HB.out) | (with_reducible refine Kd.C_alloc ?_ _) | (with_reducible refine Kd.C_drewN ?_ _) | (with_reducible refine Kd.C_drew ?_))); (case side4 => exact HC1.out); rintro e w' ⟨rfl, ⟨nd, rfl⟩⟩))
              go_ret
              exact ⟨by first | rfl | (simp [errW_none, errW_some] <;> rfl) | (simp [*, errW_none, errW_some] <;> rfl), by repeat (first | (with_reducible first | exact HB.out | apply below_alloc | apply pw_below_drewN | apply below_drew1) | exact HB.out)⟩
            · rw [if_neg c16] at H
              have c16b0 : (t266 == 0) = false := beq_eq_false_iff_ne.mpr c16
              have c16b1 : (t266 != 0) = true := bne_iff_ne.mpr c16
              obtain rfl := Option.some.inj H
              go_wp2_with (first | ((with_reducible refine gate_callee (f := 44) rfl ?_); refine goesL_ (some 31) rfl rfl Try.func44 (by kernel_rfl) rfl #[.slice A0 l0.length c0, .int .u8 a2, .bool a3] rfl (by (try simp only [List.map_toArray, List.map_cons, List.map_nil]); first | done | rfl | (simp only [List.length_drop, List.length_take]; rfl)) ?_; (with_reducible refine (csv_Print.calls _ _ l0 a2 a3 t263 t264 _ ?side1 ?side2 A13.out).mono ?_); (case side1 => repeat (first | exact (Kd.C_below HR0.out HB.out) | (with_reducible refine Kd.C_alloc ?_ _) | (with_reducible refine Kd.C_drewN ?_ _) | (with_reducible refine Kd.C_drew ?_))); (case side2 => exact HC0.out); rintro e w20 ⟨rfl, hb⟩; refine ⟨_, rfl, ?_⟩; have n0_ := Aside0.mk (below_step (by repeat (first | (with_reducible first | exact HB.out | apply below_alloc | apply pw_below_drewN | apply below_drew1) | exact HB.out)) hb); clear HB; have HB := n0_; clear n0_; (try clear hb); (try clear hb2); (try clear hk); (try clear hi)) | ((with_reducible refine gate_callee (f := 44) rfl ?_); refine goesL_ (some 38) rfl rfl Try.func44 (by kernel_rfl) rfl #[.slice A1 l1.length c1, .int .u8 a2, .bool a3] rfl (by (try simp only [List.map_toArray, List.map_cons, List.map_nil]); first | done | rfl | (simp only [List.length_drop, List.length_take]; rfl)) ?_; (with_reducible refine (csv_Print.calls _ _ l1 a2 a3 t265 t266 _ ?side1 ?side2 A14.out).mono ?_); (case side1 => repeat (first | exact (Kd.C_below HR1.out HB.out) | (with_reducible refine Kd.C_alloc ?_ _) | (with_reducible refine Kd.C_drewN ?_ _) | (with_reducible refine Kd.C_drew ?_))); (case side2 => exact HC1.out); rintro e w21 ⟨rfl, hb⟩; refine ⟨_, rfl, ?_⟩; have n0_ := Aside0.mk (below_step (by repeat (first | (with_reducible first | exact HB.out | apply below_alloc | apply pw_below_drewN | apply below_drew1) | exact HB.out)) hb); clear HB; have HB := n0_; clear n0_; (try clear hb); (try clear hb2); (try clear hk); (try clear hi)))
              go_ret
              exact ⟨by first | rfl | (simp [errW_none, errW_some] <;> rfl) | (simp [*, errW_none, errW_some] <;> rfl), by repeat (first | (with_reducible first | exact HB.out | apply below_alloc | apply pw_below_drewN | apply below_drew1) | exact HB.out)⟩
          · rw [if_neg c15] at H
            have c15b0 : (t264 == 0) = false := beq_eq_false_iff_ne.mpr c15
            have c15b1 : (t264 != 0) = true := bne_iff_ne.mpr c15
            obtain rfl := Option.some.inj H
            go_wp2_with (first | ((with_reducible refine gate_callee (f := 44) rfl ?_); refine goesL_ (some 31) rfl rfl Try.func44 (by kernel_rfl) rfl #[.slice A0 l0.length c0, .int .u8 a2, .bool a3] rfl (by (try simp only [List.map_toArray, List.map_cons, List.map_nil]); first | done | rfl | (simp only [List.length_drop, List.length_take]; rfl)) ?_; (with_reducible refine (csv_Print.calls _ _ l0 a2 a3 t263 t264 _ ?side1 ?side2 A13.out).mono ?_); (case side1 => repeat (first | exact (Kd.C_below HR0.out HB.out) | (with_reducible refine Kd.C_alloc ?_ _) | (with_reducible refine Kd.C_drewN ?_ _) | (with_reducible refine Kd.C_drew ?_))); (case side2 => exact HC0.out); rintro e w22 ⟨rfl, hb⟩; refine ⟨_, rfl, ?_⟩; have n0_ := Aside0.mk (below_step (by repeat (first | (with_reducible first | exact HB.out | apply below_alloc | apply pw_below_drewN | apply below_drew1) | exact HB.out)) hb); clear HB; have HB := n0_; clear n0_; (try clear hb); (try clear hb2); (try clear hk); (try clear hi)) | ((with_reducible refine gate_callee (f := 44) rfl ?_); refine goesL_ (some 38) rfl rfl Try.func44 (by kernel_rfl) rfl #[.slice A1 l1.length c1, .int .u8 a2, .bool a3] rfl (by (try simp only [List.map_toArray, List.map_cons, List.map_nil]); first | done | rfl | (simp only [List.length_drop, List.length_take]; rfl)) ?_; (with_reducible refine (csv_Print.calls _ _ l1 a2 a3 t265 t266 _ ?side1 ?side2 A14.out).mono ?_); (case side1 => repeat (first | exact (Kd.C_below HR1.out HB.out) | (with_reducible refine Kd.C_alloc ?_ _) | (with_reducible refine Kd.C_drewN ?_ _) | (with_reducible refine Kd.C_drew ?_))); (case side2 => exact HC1.out); rintro e w23 ⟨rfl, hb⟩; refine ⟨_, rfl, ?_⟩; have n0_ := Aside0.mk (below_step (by repeat (first | (with_reducible first | exact HB.out | apply below_alloc | apply pw_below_drewN | apply below_drew1) | exact HB.out)) hb); clear HB; have HB := n0_; clear n0_; (try clear hb); (try clear hb2); (try clear hk); (try clear hi)))
            go_ret
            exact ⟨by first | rfl | (simp [errW_none, errW_some] <;> rfl) | (simp [*, errW_none, errW_some] <;> rfl), by repeat (first | (with_reducible first | exact HB.out | apply below_alloc | apply pw_below_drewN | apply below_drew1) | exact HB.out)⟩
        · replace c12 := Bool.eq_false_iff.mpr c12
          subst c12
          have H1 : (some true) = some r := by rw [if_neg (show ¬ (false = true) by decide)] at H; exact H
          clear H
          have H := H1
          clear H1
          obtain rfl := Option.some.inj H
          go_wp2
          go_ret
          exact ⟨by first | rfl | (simp [errW_none, errW_some] <;> rfl) | (simp [*, errW_none, errW_some] <;> rfl), by repeat (first | (with_reducible first | exact HB.out | apply below_alloc | apply pw_below_drewN | apply below_drew1) | exact HB.out)⟩
  · replace c6 := Bool.eq_false_iff.mpr c6
    subst c6
    have H1 : (some false) = some r := by rw [if_neg (show ¬ (false = true) by decide)] at H; exact H
    clear H
    have H := H1
    clear H1
    obtain rfl := Option.some.inj H
    go_enter Try.func19, Try.ntmps19
    go_wp2_with (first | ((with_reducible refine gate_callee (f := 39) rfl ?_); refine goesL_ (some 15) rfl rfl Try.func39 (by kernel_rfl) rfl #[] rfl (by (try simp only [List.map_toArray, List.map_cons, List.map_nil]); first | done | rfl | (simp only [List.length_drop, List.length_take]; rfl)) ?_; (with_reducible refine (tartanlaw03_works.calls  false _ A5.out).mono ?_); rintro e w24 ⟨rfl, hb⟩; refine ⟨_, rfl, ?_⟩; have n0_ := Aside0.mk (below_step (by repeat (first | (with_reducible first | exact HB.out | apply below_alloc | apply pw_below_drewN | apply below_drew1) | exact HB.out)) hb); clear HB; have HB := n0_; clear n0_; (try clear hb); (try clear hb2); (try clear hk); (try clear hi)))
    go_ret
    exact ⟨by first | rfl | (simp [errW_none, errW_some] <;> rfl) | (simp [*, errW_none, errW_some] <;> rfl), by repeat (first | (with_reducible first | exact HB.out | apply below_alloc | apply pw_below_drewN | apply below_drew1) | exact HB.out)⟩

end Go.Proofs.Ytggodagdfldndaa.Q.L.Z

/-! What csv.Print prints: the records as they are written, if all are such as csv takes. No program in sight. -/
namespace Go.Proofs.Ytggodagdfldndaa.Q.L
open Go.RowKit
theorem tooBig_false (r : List ByteArray) : tooBig r = false ↔ r.length ≤ 128 ∧ ∀ y ∈ r, y.size ≤ 4096 := by
  unfold tooBig
  rw [Bool.or_eq_false_iff, List.any_eq_false, decide_eq_false_iff_not]
  constructor
  · rintro ⟨h1, h2⟩
    refine ⟨by omega, fun y hy => ?_⟩
    have := h2 y hy
    unfold bigger at this
    simp only [decide_eq_true_eq] at this
    omega
  · rintro ⟨h1, h2⟩
    refine ⟨by omega, fun y hy => ?_⟩
    have := h2 y hy
    unfold bigger
    simp only [decide_eq_true_eq]
    omega
theorem printLoop_good (c : UInt8) (crlf : Bool) : ∀ (l : List (List ByteArray)) (e : Int) (acc : Bs), (∀ r ∈ l, RowOk r) → printLoop c crlf l e acc = (e, acc ++ recsR c.toNat c (l.map fun r => (r, crlf)))
  | [], e, acc, _ => by simp [printLoop, recsR]
  | r :: l, e, acc, h => by
    obtain ⟨h1, h2, h3⟩ := h r (by simp)
    rw [printLoop, if_neg (fun e => h1 (List.length_eq_zero_iff.1 e)), if_neg (by rw [(tooBig_false r).2 ⟨h2, h3⟩]; decide), printLoop_good c crlf l e _ (fun q hq => h q (List.mem_cons_of_mem _ hq))]
    rw [List.map_cons, recsR]
    simp [writeB, cells]
theorem printLoop_ok (c : UInt8) (crlf : Bool) : ∀ (l : List (List ByteArray)) (e : Int) (acc : Bs), (printLoop c crlf l e acc).1 = 0 → e = 0 ∧ ∀ r ∈ l, RowOk r
  | [], e, acc, h => ⟨h, by simp⟩
  | r :: l, e, acc, h => by
    rw [printLoop] at h
    split at h
    · cases h
    · rename_i h1
      split at h
      · have := (printLoop_ok c crlf l _ _ h).1
        cases this
      · rename_i h2
        obtain ⟨g1, g2⟩ := printLoop_ok c crlf l _ _ h
        refine ⟨g1, fun q hq => ?_⟩
        rcases List.mem_cons.1 hq with rfl | hq
        · obtain ⟨a1, a2⟩ := (tooBig_false q).1 (by simpa using h2)
          exact ⟨fun e => h1 (by rw [e]; rfl), a1, a2⟩
        · exact g2 q hq
/-- Records that are printed: their text. -/
def textR (d : Int) (crlf : Bool) (l : List (List ByteArray)) : Bs := recsR d (UInt8.ofNat d.toNat) (l.map fun r => (r, crlf))
theorem byteI {d : Int} (h : (Lit.int .u8 d).wf = true) : ((UInt8.ofNat d.toNat).toNat : Int) = d := by
  obtain ⟨c, rfl⟩ := delim_byte d h
  simp
theorem byteI0 {d : Int} (h : (Lit.int .u8 d).wf = true) : 0 ≤ d ∧ d ≤ 255 := by
  obtain ⟨c, rfl⟩ := delim_byte d h
  have := c.toNat_lt
  omega
theorem printF_ok (l : List (List ByteArray)) (d : Int) (crlf : Bool) (hd : (Lit.int .u8 d).wf = true) (s : ByteArray) (h : printF l d crlf = (s, 0)) : goodI d = true ∧ (∀ r ∈ l, RowOk r) ∧ l.length ≤ 2048 ∧ s = ofBs (textR d crlf l) := by
  have hb := byteI hd
  cases hg : goodI d with
  | false => unfold printF at h; rw [hg, if_neg (by decide)] at h; simp at h
  | true =>
    obtain ⟨⟨e, acc⟩, hp⟩ : ∃ p, printLoop (UInt8.ofNat d.toNat) crlf l (if 2048 < l.length then 7 else 0) [] = p := ⟨_, rfl⟩
    rw [print_post l d crlf e acc hg hp] at h
    by_cases h0 : e = 0
    · subst h0
      obtain ⟨g1, g2⟩ := printLoop_ok _ _ _ _ _ (by rw [hp])
      have hl : l.length ≤ 2048 := by
        by_cases e : 2048 < l.length
        · rw [if_pos e] at g1; cases g1
        · omega
      rw [printLoop_good _ _ _ _ _ g2, List.nil_append, hb] at hp
      rw [if_pos rfl] at h
      split at h
      · simp at h
      · refine ⟨rfl, g2, hl, ?_⟩
        rw [← (Prod.mk.inj h).1, ← (Prod.mk.inj hp).2]; rfl
    · rw [if_neg h0] at h
      exact absurd (Prod.mk.inj h).2 h0
theorem printF_bad (l : List (List ByteArray)) (d : Int) (crlf : Bool) (s : ByteArray) (e : Int) (h : printF l d crlf = (s, e)) (he : e ≠ 0) : s = ⟨#[]⟩ := by
  cases hg : goodI d with
  | false => unfold printF at h; rw [hg, if_neg (by decide)] at h; exact (Prod.mk.inj h).1.symm
  | true =>
    obtain ⟨⟨e2, acc⟩, hp⟩ : ∃ p, printLoop (UInt8.ofNat d.toNat) crlf l (if 2048 < l.length then 7 else 0) [] = p := ⟨_, rfl⟩
    rw [print_post l d crlf e2 acc hg hp] at h
    split at h
    · split at h
      · exact (Prod.mk.inj h).1.symm
      · exact absurd (Prod.mk.inj h).2.symm he
    · exact (Prod.mk.inj h).1.symm
theorem printF_good (l : List (List ByteArray)) (d : Int) (crlf : Bool) (hd : (Lit.int .u8 d).wf = true) (hg : goodI d = true) (hr : ∀ r ∈ l, RowOk r) (hl : l.length ≤ 2048) (hs : (textR d crlf l).length ≤ 4194304) : printF l d crlf = (ofBs (textR d crlf l), 0) := by
  have hb := byteI hd
  have hp := printLoop_good (UInt8.ofNat d.toNat) crlf l (if 2048 < l.length then 7 else 0) [] hr
  have e0 : (if 2048 < l.length then (7 : Int) else 0) = 0 := if_neg (by omega)
  rw [print_post l d crlf _ _ hg hp, if_pos e0, List.nil_append, hb, if_neg (by unfold textR at hs; omega)]
  rfl
theorem print_f (l : List (List ByteArray)) (d : Int) (crlf : Bool) (hd : (Lit.int .u8 d).wf = true) (hl : l.length ≤ 5000) : csv_Print.f l d crlf = some (printF l d crlf) := by
  obtain ⟨h1, h2⟩ := byteI0 hd
  unfold csv_Print.f
  rw [if_pos ⟨hl, h1, h2⟩]
/-- What is printed is parsed back. -/
theorem text_back (l : List (List ByteArray)) (d : Int) (crlf : Bool) (hd : (Lit.int .u8 d).wf = true) (hg : goodI d = true) (hr : ∀ r ∈ l, RowOk r) (hl : l.length ≤ 2048) : parseF (textR d crlf l) d = (l, 0, 0) := by
  have := parse_rows d (UInt8.ofNat d.toNat) (byteI hd) hg (l.map fun r => (r, crlf)) (by
    intro p hp
    obtain ⟨r, hr2, rfl⟩ := List.mem_map.1 hp
    exact hr r hr2) (by rw [List.length_map]; exact hl)
  unfold textR
  rw [this, List.map_map]
  rw [show (Prod.fst ∘ fun r => ((r, crlf) : List ByteArray × Bool)) = id from rfl, List.map_id]
end Go.Proofs.Ytggodagdfldndaa.Q.L

/-! What the printed Lean functions of chapter 3 come to, with enough rounds; the document's examples hold. -/
namespace Go.Proofs.Ytggodagdfldndaa.Q.L.Z
open Go.RowKit Go.Proofs.YtggodagdfldndaaW.PrintWords Go.Proofs.YtggodagdfldndaaW.PrintLast Go.Proofs.Ytggodagdfldndaa.Q.L Go.Proofs.Ytggodagdfldndaa.Q
theorem parse_f (s : ByteArray) (d : Int) (hs : s.size ≤ 1048576) : csv_Parse.f s d = some (parseF (toBs s) d) := by
  unfold csv_Parse.f; rw [if_pos hs]
theorem works03 : tartanlaw03_works.f = some true := by
  unfold tartanlaw03_works.f
  rw [parse_f _ _ (by decide), parse_f _ _ (by decide), parse_f _ _ (by decide), print_f _ _ _ (by decide) (by decide)]
  decide +kernel
theorem rd_nat (l : List (List ByteArray)) (i : Nat) (h : i < l.length) : rd_L1 l (i : Int) = l[i] := by
  unfold rd_L1
  simp [h]
/-! ### are records alike? -/
theorem row_l0 (a b : List ByteArray) (hl : a.length = b.length) (hb : a.length ≤ 1000000) : ∀ (m k i : Nat), i + m = a.length → m < k → a.take i = b.take i → tartanref03_Row.l0 k a b i = some (decide (a = b)) := by
  intro m
  induction m with
  | zero =>
    intro k i hi hk he
    obtain ⟨k, rfl⟩ : ∃ q, k = q + 1 := ⟨k - 1, by omega⟩
    simp only [tartanref03_Row.l0]
    rw [List.take_of_length_le (by omega), List.take_of_length_le (by omega)] at he
    rw [if_neg (by omega), he]; simp
  | succ m ih =>
    intro k i hi hk he
    obtain ⟨k, rfl⟩ : ∃ q, k = q + 1 := ⟨k - 1, by omega⟩
    have h1 : i < a.length := by omega
    have h2 : i < b.length := by omega
    simp only [tartanref03_Row.l0]
    rw [if_pos (by omega), if_pos (by omega), if_pos (by omega), rdOf_nat a i h1, rdOf_nat b i h2, toList_toBs, toList_toBs]
    by_cases e : a[i] = b[i]
    · rw [if_pos (by rw [e]), show wrap64 ((i : Int) + 1) = ((i + 1 : Nat) : Int) from wrap_nat i 1 (by omega)]
      refine ih k (i + 1) (by omega) (by omega) ?_
      rw [List.take_add_one, List.take_add_one, he, List.getElem?_eq_getElem h1, List.getElem?_eq_getElem h2, e]
    · rw [if_neg (fun h => e (by rw [← ofBs_toBs a[i], h, ofBs_toBs])), decide_eq_false (fun h => e (by subst h; rfl))]
theorem row_f (a b : List ByteArray) (hb : a.length ≤ 1000000) (k : Nat) (hk : a.length < k) : tartanref03_Row.f k a b = some (decide (a = b)) := by
  unfold tartanref03_Row.f
  by_cases h : a.length = b.length
  · rw [if_pos (by omega)]
    exact row_l0 a b h hb a.length k 0 (by omega) hk (by simp)
  · rw [if_neg (by omega), decide_eq_false (fun e => h (by rw [e]))]
theorem same_l0 (a b : List (List ByteArray)) (hl : a.length = b.length) (hb : a.length ≤ 1000000) (B : Nat) (hB : ∀ r ∈ a, r.length ≤ B) (hB2 : B ≤ 1000000) : ∀ (m k i : Nat), i + m = a.length → m + B + 1 < k → a.take i = b.take i → tartanref03_Same.l0 k a b i = some (decide (a = b)) := by
  intro m
  induction m with
  | zero =>
    intro k i hi hk he
    obtain ⟨k, rfl⟩ : ∃ q, k = q + 1 := ⟨k - 1, by omega⟩
    simp only [tartanref03_Same.l0]
    rw [List.take_of_length_le (by omega), List.take_of_length_le (by omega)] at he
    rw [if_neg (by omega), he]; simp
  | succ m ih =>
    intro k i hi hk he
    obtain ⟨k, rfl⟩ : ∃ q, k = q + 1 := ⟨k - 1, by omega⟩
    have h1 : i < a.length := by omega
    have h2 : i < b.length := by omega
    have h3 := hB a[i] (List.getElem_mem h1)
    simp only [tartanref03_Same.l0]
    rw [if_pos (by omega), if_pos (by omega), if_pos (by omega), rd_nat a i h1, rd_nat b i h2, row_f _ _ (by omega) k (by omega), Option.bind_some]
    by_cases e : a[i] = b[i]
    · rw [if_pos (decide_eq_true e), show wrap64 ((i : Int) + 1) = ((i + 1 : Nat) : Int) from wrap_nat i 1 (by omega)]
      refine ih k (i + 1) (by omega) (by omega) ?_
      rw [List.take_add_one, List.take_add_one, he, List.getElem?_eq_getElem h1, List.getElem?_eq_getElem h2, e]
    · rw [if_neg (by rw [decide_eq_false e]; decide), decide_eq_false (fun h => e (by subst h; rfl))]
theorem same_f (a b : List (List ByteArray)) (hb : a.length ≤ 1000000) (B : Nat) (hB : ∀ r ∈ a, r.length ≤ B) (hB2 : B ≤ 1000000) (k : Nat) (hk : a.length + B + 1 < k) : tartanref03_Same.f k a b = some (decide (a = b)) := by
  unfold tartanref03_Same.f
  by_cases h : a.length = b.length
  · rw [if_pos (by omega)]
    exact same_l0 a b h hb B hB hB2 a.length k 0 (by omega) hk (by simp)
  · rw [if_neg (by omega), decide_eq_false (fun e => h (by rw [e]))]
/-! ### are they few? -/
/-- How many bytes cells count for. -/
def weigh : List ByteArray → Nat
  | [] => 0
  | x :: r => x.size + 1 + weigh r
def weighL : List (List ByteArray) → Nat
  | [] => 0
  | r :: l => weigh r + weighL l
/-- So few that they are looked at. -/
def FewP (l : List (List ByteArray)) : Prop := l.length ≤ 60 ∧ (∀ r ∈ l, r.length ≤ 60) ∧ weighL l ≤ 8000
def Sized (l : List (List ByteArray)) : Prop := ∀ r ∈ l, ∀ x ∈ r, x.size ≤ 140737488351232
theorem weigh_take (r : List ByteArray) (j : Nat) (h : j < r.length) : weigh (r.take (j + 1)) = weigh (r.take j) + (r[j].size + 1) := by
  induction r generalizing j with
  | nil => cases h
  | cons x r ih =>
    cases j with
    | zero => simp [weigh]
    | succ j =>
      have := ih j (by simpa using h)
      simp only [List.take_succ_cons, weigh, List.getElem_cons_succ, this]
      omega
theorem weighL_take (l : List (List ByteArray)) (i : Nat) (h : i < l.length) : weighL (l.take (i + 1)) = weighL (l.take i) + weigh l[i] := by
  induction l generalizing i with
  | nil => cases h
  | cons x r ih =>
    cases i with
    | zero => simp [weighL]
    | succ i =>
      have := ih i (by simpa using h)
      simp only [List.take_succ_cons, weighL, List.getElem_cons_succ, this]
      omega
theorem few_step (n s : Nat) (hn : n ≤ 8000) (hs : s ≤ 140737488351232) : wrap64 (wrap64 ((n : Int) + (s : Int)) + 1) = ((n + s + 1 : Nat) : Int) := by
  unfold wrap64; omega
/-- Few's two loops: true only if all that follows is few. -/
theorem few_loops (l : List (List ByteArray)) (hl : l.length ≤ 60) (hs : Sized l) : ∀ (m : Nat),
    (∀ (k i n : Nat), i + m = l.length → m * 62 + 1 < k → n = weighL (l.take i) → n ≤ 8000 → (∀ r ∈ l.take i, r.length ≤ 60) → ∃ b, tartanref03_Few.l0 k l (n : Int) (i : Int) = some b ∧ (b = true → FewP l)) := by
  intro m
  induction m with
  | zero =>
    intro k i n hi hk hn hn2 hr
    obtain ⟨k, rfl⟩ : ∃ q, k = q + 1 := ⟨k - 1, by omega⟩
    refine ⟨true, ?_, fun _ => ?_⟩
    · simp only [tartanref03_Few.l0]
      rw [if_neg (by omega)]
    · rw [List.take_of_length_le (by omega)] at hn hr
      exact ⟨hl, hr, by omega⟩
  | succ m ih =>
    intro k i n hi hk hn hn2 hr
    obtain ⟨k, rfl⟩ : ∃ q, k = q + 1 := ⟨k - 1, by omega⟩
    have h1 : i < l.length := by omega
    simp only [tartanref03_Few.l0]
    rw [if_pos (by omega), if_pos (by omega), rd_nat l i h1]
    by_cases h60 : (l[i].length : Int) > 60
    · exact ⟨false, by rw [if_pos h60], fun h => by cases h⟩
    · rw [if_neg h60]
      have inner : ∀ (m2 k2 j n2 : Nat), j + m2 = l[i].length → m * 62 + m2 + 2 < k2 → n2 = weighL (l.take i) + weigh (l[i].take j) → n2 ≤ 8000 → ∃ b, tartanref03_Few.l1 k2 l (n2 : Int) (i : Int) (j : Int) = some b ∧ (b = true → FewP l) := by
        intro m2
        induction m2 with
        | zero =>
          intro k2 j n2 hj hk2 hn3 hn4
          obtain ⟨k2, rfl⟩ : ∃ q, k2 = q + 1 := ⟨k2 - 1, by omega⟩
          simp only [tartanref03_Few.l1]
          rw [if_pos (by omega), if_pos (by omega), rd_nat l i h1, if_neg (by omega), show wrap64 ((i : Int) + 1) = ((i + 1 : Nat) : Int) from wrap_nat i 1 (by omega)]
          refine ih k2 (i + 1) n2 (by omega) (by omega) ?_ hn4 ?_
          · rw [weighL_take l i h1, hn3, show l[i].take j = l[i] from List.take_of_length_le (by omega)]
          · intro r hr2
            rw [List.take_add_one, List.getElem?_eq_getElem h1] at hr2
            simp only [Option.toList_some, List.mem_append, List.mem_singleton] at hr2
            rcases hr2 with hr2 | rfl
            · exact hr r hr2
            · omega
        | succ m2 ih2 =>
          intro k2 j n2 hj hk2 hn3 hn4
          obtain ⟨k2, rfl⟩ : ∃ q, k2 = q + 1 := ⟨k2 - 1, by omega⟩
          have h2 : j < l[i].length := by omega
          have hsz := hs l[i] (List.getElem_mem h1) l[i][j] (List.getElem_mem h2)
          simp only [tartanref03_Few.l1]
          rw [if_pos (by omega), if_pos (by omega), rd_nat l i h1, if_pos (by omega), if_pos (by omega), rdOf_nat _ j h2]
          rw [few_step n2 l[i][j].size hn4 hsz]
          by_cases h8 : ((n2 + l[i][j].size + 1 : Nat) : Int) > 8000
          · exact ⟨false, by rw [if_pos h8], fun h => by cases h⟩
          · rw [if_neg h8, show wrap64 ((j : Int) + 1) = ((j + 1 : Nat) : Int) from wrap_nat j 1 (by omega)]
            exact ih2 k2 (j + 1) _ (by omega) (by omega) (by rw [weigh_take _ j h2, hn3]; omega) (by omega)
      exact inner l[i].length k 0 n (by omega) (by omega) (by rw [hn]; simp [weigh]) hn2
theorem few_f (l : List (List ByteArray)) (hs : Sized l) (k : Nat) (hk : 4000 < k) : ∃ b, tartanref03_Few.f k l = some b ∧ (b = true → FewP l) := by
  unfold tartanref03_Few.f
  by_cases h : (l.length : Int) > 60
  · exact ⟨false, by rw [if_pos h], fun h => by cases h⟩
  · rw [if_neg h]
    exact few_loops l (by omega) hs l.length k 0 0 (by omega) (by omega) rfl (by omega) (by simp)
end Go.Proofs.Ytggodagdfldndaa.Q.L.Z

/-! Few records have short texts. No program in sight. -/
namespace Go.Proofs.Ytggodagdfldndaa.Q.L.Z
open Go.RowKit Go.Proofs.Ytggodagdfldndaa.Q.L
theorem costR_weigh (d : Int) : ∀ r : List ByteArray, costR d r ≤ 3 * weigh r
  | [] => Nat.le_refl _
  | x :: r => by
    have h1 := costR_weigh d r
    have h2 := put_length (toBs x) d
    rw [size_toBs] at h2
    simp only [costR, weigh]
    omega
theorem costL_weigh (d : Int) : ∀ l : List (List ByteArray), costL d l ≤ 3 * weighL l
  | [] => Nat.le_refl _
  | r :: l => by
    have h1 := costL_weigh d l
    have h2 := costR_weigh d r
    simp only [costL, weighL]
    omega
theorem textR_length (d : Int) (crlf : Bool) (l : List (List ByteArray)) (hr : ∀ r ∈ l, RowOk r) : (textR d crlf l).length = costL d l + (if crlf = true then l.length else 0) := recsR_cost d _ crlf l hr
theorem few_text (d : Int) (crlf : Bool) (l : List (List ByteArray)) (hf : FewP l) (hr : ∀ r ∈ l, RowOk r) : (textR d crlf l).length ≤ 24060 := by
  have h1 := textR_length d crlf l hr
  have h2 := costL_weigh d l
  obtain ⟨h3, _, h4⟩ := hf
  rw [h1]
  split <;> omega
end Go.Proofs.Ytggodagdfldndaa.Q.L.Z

/-! Records that are unlike have unlike texts: for every input the law answers true. Conditions: none. -/
namespace Go.Proofs.Ytggodagdfldndaa.Pure
open Go.RowKit Go.Proofs.Ytggodagdfldndaa.Q Go.Proofs.Ytggodagdfldndaa.Q.L Go.Proofs.Ytggodagdfldndaa.Q.L.Z Go.Proofs.YtggodagdfldndaaW.PrintWords Go.Proofs.YtggodagdfldndaaW.PrintLast

theorem CsvApart (a b : List (List ByteArray)) (d : Int) (crlf : Bool) (ha : Sized a) (hb : Sized b) (hd : (Lit.int .u8 d).wf = true) : ∃ k, tartanlaw03_CsvApart.f k a b d crlf = some true := by
  refine ⟨5001, ?_⟩
  unfold tartanlaw03_CsvApart.f
  obtain ⟨x, hx, hfa⟩ := few_f a ha 5001 (by omega)
  obtain ⟨y, hy, hfb⟩ := few_f b hb 5001 (by omega)
  have hno : tartanlaw03_CsvApart.j0 5001 a b d crlf true false = some true := by
    rw [tartanlaw03_CsvApart.j0, if_neg (by decide)]
  rw [works03, Option.bind_some, if_pos rfl, hx, Option.bind_some]
  cases x with
  | false => rw [if_neg (by decide)]; exact hno
  | true =>
    have hfa := hfa rfl
    rw [if_pos rfl, hy, Option.bind_some]
    cases y with
    | false => exact hno
    | true =>
      have hfb := hfb rfl
      rw [tartanlaw03_CsvApart.j0, if_pos rfl, print_f a d crlf hd (by have := hfa.1; omega), Option.bind_some, print_f b d crlf hd (by have := hfb.1; omega), Option.bind_some]
      obtain ⟨⟨s, e⟩, hp⟩ : ∃ q, printF a d crlf = q := ⟨_, rfl⟩
      obtain ⟨⟨t, f⟩, hq⟩ : ∃ q, printF b d crlf = q := ⟨_, rfl⟩
      rw [hp, hq]
      dsimp only
      by_cases he : e = 0
      · subst he
        rw [if_pos rfl]
        by_cases hf : f = 0
        · subst hf
          obtain ⟨hg, hr, hl, rfl⟩ := printF_ok a d crlf hd s hp
          obtain ⟨_, hr2, hl2, rfl⟩ := printF_ok b d crlf hd t hq
          rw [if_pos rfl, if_pos rfl]
          unfold csv_Same.f
          rw [Option.bind_some, toList_ofBs, toList_ofBs]
          by_cases h : a = b
          · subst h
            simp
          · have h2 : textR d crlf a ≠ textR d crlf b := by
              intro e
              have h3 := text_back a d crlf hd hg hr hl
              rw [e, text_back b d crlf hd hg hr2 hl2] at h3
              exact h (Prod.mk.inj h3).1.symm
            simp [h, h2]
        · rw [if_neg hf]
      · rw [if_neg he]

end Go.Proofs.Ytggodagdfldndaa.Pure

/-! A list of strings among a law's arguments: opened as the printed walks want it, and read again afterwards. -/
namespace Go.Proofs.Ytggodagdfldndaa
open Go.ChangeShapes Go.WideShapes Go.ChangeAt Go.RowKit Go.Proofs.YtggodagdfldndaaW.PrintWords
theorem laidOut : laidOutB Try.prog = true := by kernel_rfl
theorem underlying38 : Try.prog.underlying 38 = some (.slice 9) := by kernel_rfl
theorem under9 : Try.prog.underlying 9 = some .string := by kernel_rfl
theorem cells9 : Try.prog.cellsOf 9 = 1 := by kernel_rfl
theorem open_strl {H : Type} {enc : TypeId × Value → H} {W : World} {base : Nat} {v0 : Value} {d0 : DataW H} {p0 : List MemPlace} (hv : Value.okWide Try.prog W .any base 38 v0)
    (h : DataW.Trod enc Try.prog W 0 (fun _ => true) true 38 v0 d0 p0) :
    ∃ (A : Option Addr) (l : List ByteArray) (cap : Nat), v0 = .slice A l.length cap ∧ l.length ≤ cap ∧ Kd.C Kd.string W A l.length l := by
  obtain ⟨a0, len, cap, rfl⟩ := okWide_slice underlying38 hv
  obtain ⟨fuel, hf⟩ := h
  rcases open_strings underlying38 under9 cells9 hf with ⟨hcs, hx⟩ | ⟨a, len', cap', ss, hcs, _, hl, hm, hz, hx, hcell, hsz⟩
  · simp [Value.cells] at hcs
    obtain ⟨rfl, rfl, rfl⟩ := hcs
    exact ⟨none, [], 0, rfl, Nat.le_refl _, Kd.C_of_reads (d := ByteArray.empty) ⟨rfl, Nat.zero_le _, fun h => by cases h⟩⟩
  · simp [Value.cells] at hcs
    obtain ⟨rfl, rfl, rfl⟩ := hcs
    have hz' : cap = ss.length ∨ len = ss.length := by
      split at hz
      · exact Or.inl hz.symm
      · exact Or.inr hz.symm
    have e : (ss.take len).length = len := by rw [List.length_take]; omega
    refine ⟨some a, ss.take len, cap, by rw [e], by rw [e]; exact hl, ?_⟩
    rw [e]
    refine Kd.C_of_reads (d := ByteArray.empty) ⟨e, ?_, fun _ => ⟨a, rfl, fun j hj => ?_⟩⟩
    · have : maxLen ≤ 9223372036854775807 := by decide
      have h9 := Nat.le_trans hm this
      clear this hm
      exact Nat.le_trans hl h9
    · rw [hcell j (by omega)]
      have h3 : (ss.take len).getD j ByteArray.empty = ss.getD j ByteArray.empty := by
        rw [List.getD_eq_getElem?_getD, List.getD_eq_getElem?_getD, List.getElem?_take_of_lt hj]
      rw [h3]
/-- It is read again as before, where nothing of it was written. -/
theorem again_strl {H : Type} {enc : TypeId × Value → H} {W W' : World} {v0 : Value} {d0 : DataW H} {p0 : List MemPlace} (h : DataW.Trod enc Try.prog W 0 (fun _ => true) true 38 v0 d0 p0)
    (hb : Below W.heap.size W W') (hlt : ∀ x ∈ p0, x.block < W.heap.size) : DataW.Trod enc Try.prog W' 0 (fun b => decide (b < W.heap.size)) true 38 v0 d0 p0 :=
  Below.trod laidOut (by kernel_rfl) (of_decide_eq_true (by kernel_rfl)) h hb hlt
end Go.Proofs.Ytggodagdfldndaa

/-! A list of lists of strings among a law's arguments: opened as the printed walks want it, and read again afterwards. -/
namespace Go.Proofs.Ytggodagdfldndaa
open Go.ChangeShapes Go.WideShapes Go.ChangeAt Go.RowKit Go.Proofs.YtggodagdfldndaaW.PrintWords
theorem underlying41 : Try.prog.underlying 41 = some (.slice 38) := by kernel_rfl
theorem cells38 : Try.prog.cellsOf 38 = 1 := by kernel_rfl
theorem weights_strs {H : Type} (P : Program) (e : TypeId) : ∀ (ss : List ByteArray), ∀ y ∈ ss, y.size ∈ DataW.weightsAll P e (strs (H := H) ss)
  | [], _, h => by cases h
  | s :: ss, y, h => by
    show y.size ∈ _ ++ _
    rcases List.mem_cons.1 h with rfl | h
    · exact List.mem_append_left _ (by simp [DataW.weights])
    · exact List.mem_append_right _ (weights_strs P e ss y h)
theorem weights_all {H : Type} (P : Program) (e : TypeId) : ∀ (ds : List (DataW H)) (d : DataW H), d ∈ ds → ∀ n ∈ d.weights P e, n ∈ DataW.weightsAll P e ds
  | [], _, h, _, _ => by cases h
  | d0 :: ds, d, h, n, hn => by
    show n ∈ _ ++ _
    rcases List.mem_cons.1 h with rfl | h
    · exact List.mem_append_left _ hn
    · exact List.mem_append_right _ (weights_all P e ds d h n hn)
theorem open_strs1 {H : Type} {enc : TypeId × Value → H} {W : World} {fuel : Nat} {v : Value} {x : DataW H × List MemPlace} (h : DataW.trod enc Try.prog W 0 (fun _ => true) true fuel 38 [v] = some x) :
    ∃ (A : Option Addr) (l : List ByteArray) (c : Nat), v = .slice A l.length c ∧ l.length ≤ c ∧ Kd.C Kd.string W A l.length l ∧ ∀ y ∈ l, y.size ∈ x.1.weights Try.prog 38 := by
  rcases open_strings underlying38 under9 cells9 h with ⟨hcs, hx⟩ | ⟨a, len, cap, ss, hcs, _, hl, hm, hz, hx, hcell, hsz⟩
  · injection hcs with hcs _
    subst hcs
    exact ⟨none, [], 0, rfl, Nat.le_refl _, Kd.C_of_reads (d := ByteArray.empty) ⟨rfl, Nat.zero_le _, fun h => by cases h⟩, by simp⟩
  · injection hcs with hcs _
    subst hcs
    have hz' : cap = ss.length ∨ len = ss.length := by
      split at hz
      · exact Or.inl hz.symm
      · exact Or.inr hz.symm
    have e : (ss.take len).length = len := by rw [List.length_take]; omega
    refine ⟨some a, ss.take len, cap, by rw [e], by rw [e]; exact hl, ?_, ?_⟩
    · rw [e]
      refine Kd.C_of_reads (d := ByteArray.empty) ⟨e, ?_, fun _ => ⟨a, rfl, fun j hj => ?_⟩⟩
      · have : maxLen ≤ 9223372036854775807 := by decide
        have h9 := Nat.le_trans hm this
        clear this hm
        exact Nat.le_trans hl h9
      · rw [hcell j (by omega)]
        have h3 : (ss.take len).getD j ByteArray.empty = ss.getD j ByteArray.empty := by
          rw [List.getD_eq_getElem?_getD, List.getD_eq_getElem?_getD, List.getElem?_take_of_lt hj]
        rw [h3]
    · intro y hy
      rw [hx]
      unfold DataW.weights
      rw [underlying38]
      exact List.mem_cons_of_mem _ (List.mem_append_left _ (weights_strs _ _ _ y hy))
theorem open_strll {H : Type} {enc : TypeId × Value → H} {W : World} {base : Nat} {v0 : Value} {d0 : DataW H} {p0 : List MemPlace} (hv : Value.okWide Try.prog W .any base 41 v0)
    (h : DataW.Trod enc Try.prog W 0 (fun _ => true) true 41 v0 d0 p0) (hw : ∀ n ∈ d0.weights Try.prog 41, n ≤ reachBytes) :
    ∃ (A : Option Addr) (l : List (List ByteArray)) (cap : Nat), v0 = .slice A l.length cap ∧ l.length ≤ cap ∧ Kd.C (Kd.slice 9 Kd.string) W A l.length l ∧ ∀ r ∈ l, ∀ x ∈ r, x.size ≤ 140737488351232 := by
  obtain ⟨a0, len, cap, rfl⟩ := okWide_slice underlying41 hv
  obtain ⟨fuel, hf⟩ := h
  rcases Go.Deep.open_slice1 underlying41 cells38 hf with ⟨hcs, hx⟩ | ⟨a, len', cap', m, n, V, D, Pl, hcs, _, hl, hm, hmm, hx, hel⟩
  · simp [Value.cells] at hcs
    obtain ⟨rfl, rfl, rfl⟩ := hcs
    exact ⟨none, [], 0, rfl, Nat.le_refl _, Kd.C_nil _ _, by simp⟩
  · simp [Value.cells] at hcs
    obtain ⟨rfl, rfl, rfl⟩ := hcs
    have hlm : len ≤ m := by
      split at hmm <;> omega
    have hex : ∀ i, ∃ p : Option Addr × List ByteArray × Nat, i < m → V i = .slice p.1 p.2.1.length p.2.2 ∧ p.2.1.length ≤ p.2.2 ∧ Kd.C Kd.string W p.1 p.2.1.length p.2.1 ∧ ∀ y ∈ p.2.1, y.size ∈ (D i).weights Try.prog 38 := by
      intro i
      by_cases hi : i < m
      · obtain ⟨A, l, c, h1, h2, h3, h4⟩ := open_strs1 (hel i hi).2
        exact ⟨(A, l, c), fun _ => ⟨h1, h2, h3, h4⟩⟩
      · exact ⟨(none, [], 0), fun h => absurd h hi⟩
    obtain ⟨F, hF⟩ := Classical.skolem.1 hex
    have e : ((List.range len).map fun i => (F i).2.1).length = len := by simp
    refine ⟨some a, (List.range len).map fun i => (F i).2.1, cap, by rw [e], by rw [e]; exact hl, ?_, ?_⟩
    · rw [e]
      refine ⟨e, ?_, fun _ => ⟨a, rfl, fun j p hj => ?_⟩⟩
      · have : maxLen ≤ 9223372036854775807 := by decide
        have h9 := Nat.le_trans hm this
        clear this hm
        exact Nat.le_trans hl h9
      · rw [List.getElem?_map] at hj
        obtain ⟨j', hj', rfl⟩ := Option.map_eq_some_iff.1 hj
        obtain ⟨hjl, he⟩ := List.getElem?_eq_some_iff.1 hj'
        rw [List.getElem_range] at he
        subst he
        rw [List.length_range] at hjl
        obtain ⟨g1, g2, g3, _⟩ := hF j (by omega)
        refine ⟨[V j], rfl, ⟨(F j).1, (F j).2.2, by rw [g1], g2, g3⟩, fun i u hu => ?_⟩
        cases i with
        | zero =>
          simp only [List.getElem?_cons_zero, Option.some.injEq] at hu
          subst hu
          show W.cell? (a.add (j * 1 + 0)) = _
          rw [Nat.mul_one, Nat.add_zero]
          exact (hel j (by omega)).1
        | succ i => simp at hu
    · intro r hr x hxr
      obtain ⟨j, hj, rfl⟩ := List.mem_map.1 hr
      rw [List.mem_range] at hj
      have h5 := (hF j (by omega)).2.2.2 x hxr
      refine hw _ ?_
      rw [(Prod.mk.inj hx).1]
      unfold DataW.weights
      rw [underlying41]
      exact List.mem_cons_of_mem _ (List.mem_append_left _ (weights_all _ _ _ _ (List.mem_map.2 ⟨j, List.mem_range.2 hj, rfl⟩) _ h5))
/-- It is read again as before, where nothing of it was written. -/
theorem again_strll {H : Type} {enc : TypeId × Value → H} {W W' : World} {v0 : Value} {d0 : DataW H} {p0 : List MemPlace} (h : DataW.Trod enc Try.prog W 0 (fun _ => true) true 41 v0 d0 p0)
    (hb : Below W.heap.size W W') (hlt : ∀ x ∈ p0, x.block < W.heap.size) : DataW.Trod enc Try.prog W' 0 (fun b => decide (b < W.heap.size)) true 41 v0 d0 p0 :=
  Below.trod laidOut (by kernel_rfl) (of_decide_eq_true (by kernel_rfl)) h hb hlt
/-- What it weighs is bounded. -/
theorem weight_le {H : Type} {P : Program} {ts : List TypeId} {ds : List (DataW H)} (h : (DataW.weightsEach P ts ds).all (· ≤ reachBytes) = true) {j : Nat} {t : TypeId} {d : DataW H} (ht : ts[j]? = some t) (hd : ds[j]? = some d) : ∀ n ∈ d.weights P t, n ≤ reachBytes := fun n hn => by
  have := List.all_eq_true.1 h _ (DataW.weights_mem_each ht hd n hn)
  simpa using this
end Go.Proofs.Ytggodagdfldndaa

namespace Go.Proofs.Ytggodagdfldndaa.csvApart
open Go.ChangeShapes Go.WideShapes Go.ChangeAt Go.RowKit
open Go.ChangeMaps (open_string shut_string)
set_option linter.unusedVariables false
theorem own : ownKnob Try.prog.godebug = none := by kernel_rfl
set_option maxRecDepth 100000 in
theorem lifted (os : Os) (started : os.Started) (H : Type) (enc : TypeId × Value → H) :
    ReturnsInHanded {} Try.checked os 19 .any (Rows.csvApartSpec.pre6 enc Try.prog Try.f19 Rows.csvApartRow.domain false) (Rows.csvApartSpec.post enc Try.prog Try.f19 false true false false) := by
  refine returnsInHanded_of_change_sized (C := Try.checked) own started (by kernel_rfl) Try.func19
    (ChangeSpec.witness6 (enc := enc) (C := Try.checked) false ⟨#[], #[.slice none 0 0, .slice none 0 0, .int .u8 0, .bool false], []⟩ 8 (by kernel_rfl) (by kernel_rfl) (by kernel_rfl) (by kernel_rfl)) ?_
  intro W base args ds gs before hval0 hW hcnd hsz0 _
  have hsz : (DataW.weightsEach Try.prog (Try.f19.params.toList ++ Rows.csvApartSpec.plain.varTypes Try.prog) (ds ++ gs)).all (· ≤ reachBytes) = true := hsz0
  have hval : ∀ (j : Nat) t v, Try.f19.params[j]? = some t → args[j]? = some v → Value.okWide Try.prog W .any base t v := hval0
  have hW' := hW
  obtain ⟨p, q, hA0, hV, rfl, hfz, hnd⟩ := hW
  have hA : DataW.TrodAll enc Try.prog W 0 (fun _ => true) true Try.f19.params.toList args.toList ds p := hA0
  rw [Try.params19] at hA hval hsz
  obtain ⟨v0, vs0, d0, ds0, p0, q0, hargs, rfl, rfl, h0, r0⟩ := trodAll_cons hA
  obtain ⟨v1, vs1, d1, ds1, p1, q1, rfl, rfl, rfl, h1, r1⟩ := trodAll_cons r0
  obtain ⟨v2, vs2, d2, ds2, p2, q2, rfl, rfl, rfl, h2, r2⟩ := trodAll_cons r1
  obtain ⟨v3, vs3, d3, ds3, p3, q3, rfl, rfl, rfl, h3, r3⟩ := trodAll_cons r2
  obtain ⟨rfl, rfl, rfl⟩ := trodAll_nil r3
  obtain rfl : args = #[v0, v1, v2, v3] := by cases args; simp_all
  obtain ⟨rfl, rfl⟩ := trodVars_none hV
  have g0 := h0
  obtain ⟨A0, l0, c0, rfl, hc0, hr0, z0⟩ := open_strll (hval 0 41 v0 rfl rfl) h0 (weight_le hsz (j := 0) rfl rfl)
  have hlt0 : ∀ x ∈ p0, x.block < W.heap.size := fun x hx => hW'.lt x (by simp [hx])
  have g1 := h1
  obtain ⟨A1, l1, c1, rfl, hc1, hr1, z1⟩ := open_strll (hval 1 41 v1 rfl rfl) h1 (weight_le hsz (j := 1) rfl rfl)
  have hlt1 : ∀ x ∈ p1, x.block < W.heap.size := fun x hx => hW'.lt x (by simp [hx])
  obtain ⟨a2, rfl, rfl, rfl, w2⟩ := open_int Try.underlying5 (hval 2 5 v2 rfl rfl) h2
  obtain ⟨a3, rfl, rfl, rfl⟩ := open_bool Try.underlying4 (hval 3 4 v3 rfl rfl) h3
  clear hA0 hval0 hsz0 hsz
  obtain ⟨k, hk⟩ := Pure.CsvApart l0 l1 a2 a3 z0 z1 w2
  refine (Q.L.Z.tartanlaw03_CsvApart.calls k A0 c0 l0 A1 c1 l1 a2 a3 true W hr0 hc0 hr1 hc1 hk).mono fun e W' ⟨he, bel⟩ => ?_
  subst he
  exact ⟨_, rfl, _, _, _, [], _, [], hW', trodAll_mk1 (shut_bool Try.underlying4 _), (trodAll_cons_mk (again_strll g0 bel hlt0) (trodAll_cons_mk (again_strll g1 bel hlt1) (trodAll_cons_mk (shut_int Try.underlying5 w2) (trodAll_cons_mk (shut_bool Try.underlying4 _) trodAll_mk0)))), rfl, bel.frame _, fun h => by cases h⟩
theorem over : Rows.csvApartRow.holds Try.pinned (OpenSpec.ofChange Rows.csvApartSpec) :=
  OpenClaim.holds_of_wide 19 Try.f19 rfl rfl rfl rfl rfl rfl rfl ⟨rfl, rfl, rfl, rfl, rfl⟩ rfl rfl rfl rfl rfl (by kernel_rfl) Try.func19 (by kernel_rfl)
    (of_decide_eq_true (by kernel_rfl)) (by unfold Func.isWrapper; first | (rw [if_pos (by decide +kernel)]; kernel_rfl) | (rw [if_neg (by decide +kernel)]; exact ⟨rfl, rfl⟩))
    (fun os started H enc _ => lifted os started H enc)
theorem proved : Rows.CsvApartSaid := over
#print axioms proved
end Go.Proofs.Ytggodagdfldndaa.csvApart
namespace Go.Proofs.Ytggodagdfldndaa
/-- The row, under a short name, for the claim. -/
theorem csvApart_holds : Rows.CsvApartSaid := csvApart.proved
end Go.Proofs.Ytggodagdfldndaa
