/- csv's large at strings, with slices.ContainsFunc: walked. -/
import Derived.Test.YtggodagdfldndaaJCsvFields2
import Derived.Test.YtggodagdfldndaaJCsvFields1
import Derived.Test.YtggodagdfldndaaJCsvFields0
import Derived.Deep.QuietTactic
import Derived.BigQuiet
set_option linter.unusedVariables false
set_option linter.unusedSimpArgs false
/-! Walks of Go functions of this seat against plain Lean functions, written by a program of this session (the kit's print, with hand-proved contracts for what it does not take). Lean checks them. -/
namespace Go.Proofs.Ytggodagdfldndaa.Q.L
open Go.RowKit Go.Proofs.YtggodagdfldndaaW.PrintWords Go.Proofs.YtggodagdfldndaaW.PrintLast Go.Proofs.YtggodagdfldndaaW.PrintMore
attribute [local go_sem] max2_int min2_int max_two min_two max_three min_three max_four min_four   -- for this text's walks alone
set_option linter.unusedVariables false
set_option linter.unusedSimpArgs false

/-! ### tartanref02_Field: function 35 -/
mutual
def tartanref02_Field.j0 : Nat → ByteArray → Int → Int → Bool → Option (ByteArray × Int × Int × Int)
  | 0, _, _, _, _ => none
  | k + 1, x0, x1, x2, x25 => if x25 = true then (some ((⟨#[]⟩ : ByteArray), x1, 0, 11)) else ((tartanref01_Good.f x2).bind fun t120 => (if t120 = true then (if x1 < (x0.size : Int) then (if 0 ≤ x1 then (tartanref02_Field.j1 k x0 x1 x2 ((bt x0 x1) == 34)) else (none)) else (tartanref02_Field.j1 k x0 x1 x2 false)) else (some ((⟨#[]⟩ : ByteArray), x1, 0, 2))))
def tartanref02_Field.j1 : Nat → ByteArray → Int → Int → Bool → Option (ByteArray × Int × Int × Int)
  | 0, _, _, _, _ => none
  | k + 1, x0, x1, x2, x40 => if x40 = true then (if 0 ≤ x1 then (if x1 ≤ (x0.size : Int) then ((tartanref01_Get.f k (x0.extract (x1 : Int).toNat x0.size)).bind fun bt121 => (if bt121.2.2 = 0 then ((tartanref02_ends.f k x0 (wrap64 (x1 + bt121.2.1)) x2).bind fun bt124 => (if bt124.1 = 0 then (some ((⟨#[]⟩ : ByteArray), wrap64 (x1 + bt121.2.1), 0, 5)) else (some (bt121.1, bt124.2, bt124.1, 0)))) else (some ((⟨#[]⟩ : ByteArray), x1, 0, bt121.2.2)))) else (none)) else (none)) else (tartanref02_Field.l0 k x0 x1 x2 x1)
def tartanref02_Field.l0 : Nat → ByteArray → Int → Int → Int → Option (ByteArray × Int × Int × Int)
  | 0, _, _, _, _ => none
  | k + 1, x0, x1, x2, x15 => if x15 ≤ (x0.size : Int) then ((tartanref02_ends.f k x0 x15 x2).bind fun bt126 => (if bt126.1 > 0 then (if 0 ≤ x1 then (if x1 ≤ x15 then (some (x0.extract (x1 : Int).toNat (x15 : Int).toNat, bt126.2, bt126.1, 0)) else (none)) else (none)) else (if 0 ≤ x15 then (if x15 < (x0.size : Int) then (if (bt x0 x15) = 34 then (some ((⟨#[]⟩ : ByteArray), x15, 0, 3)) else (if (bt x0 x15) = 13 then (some ((⟨#[]⟩ : ByteArray), x15, 0, 6)) else (tartanref02_Field.l0 k x0 x1 x2 (wrap64 (x15 + 1))))) else (none)) else (none)))) else (some ((⟨#[]⟩ : ByteArray), x1, 0, 11))
end
def tartanref02_Field.f (k : Nat) (a0 : ByteArray) (a1 : Int) (a2 : Int) : Option (ByteArray × Int × Int × Int) := if a1 < 0 then (tartanref02_Field.j0 k a0 a1 a2 true) else (tartanref02_Field.j0 k a0 a1 a2 (decide (a1 > (a0.size : Int))))
theorem tartanref02_Field.mono_l : ∀ k, (∀ y0 y1 y2 y3, LeO (tartanref02_Field.j0 k y0 y1 y2 y3) (tartanref02_Field.j0 (k + 1) y0 y1 y2 y3)) ∧ (∀ y0 y1 y2 y3, LeO (tartanref02_Field.j1 k y0 y1 y2 y3) (tartanref02_Field.j1 (k + 1) y0 y1 y2 y3)) ∧ (∀ y0 y1 y2 y3, LeO (tartanref02_Field.l0 k y0 y1 y2 y3) (tartanref02_Field.l0 (k + 1) y0 y1 y2 y3))
  | 0 => ⟨fun _ _ _ _ r h => by simp [tartanref02_Field.j0] at h, fun _ _ _ _ r h => by simp [tartanref02_Field.j1] at h, fun _ _ _ _ r h => by simp [tartanref02_Field.l0] at h⟩
  | k + 1 => by
    obtain ⟨ih0, ih1, ih2⟩ := tartanref02_Field.mono_l k
    refine ⟨?_, ?_, ?_⟩
    · intro y0 y1 y2 y3
      unfold tartanref02_Field.j0
      repeat' first
      | (with_reducible exact ih0 _ _ _ _)
      | (with_reducible exact ih1 _ _ _ _)
      | (with_reducible exact ih2 _ _ _ _)
      | (with_reducible exact tartanref01_Get.mono _ _)
      | (with_reducible exact tartanref02_ends.mono _ _ _ _)
      | (with_reducible exact LeO.refl _)
      | (with_reducible exact LeO.none _)
      | (with_reducible refine LeO.ite ?_ ?_)
      | (with_reducible refine LeO.bind ?_ (fun _ => ?_))
      | exact ih0 _ _ _ _
      | exact ih1 _ _ _ _
      | exact ih2 _ _ _ _
      | exact tartanref01_Get.mono _ _
      | exact tartanref02_ends.mono _ _ _ _
      | exact LeO.none _
      | refine LeO.ite ?_ ?_
      | refine LeO.bind ?_ (fun _ => ?_)
    · intro y0 y1 y2 y3
      unfold tartanref02_Field.j1
      repeat' first
      | (with_reducible exact ih0 _ _ _ _)
      | (with_reducible exact ih1 _ _ _ _)
      | (with_reducible exact ih2 _ _ _ _)
      | (with_reducible exact tartanref01_Get.mono _ _)
      | (with_reducible exact tartanref02_ends.mono _ _ _ _)
      | (with_reducible exact LeO.refl _)
      | (with_reducible exact LeO.none _)
      | (with_reducible refine LeO.ite ?_ ?_)
      | (with_reducible refine LeO.bind ?_ (fun _ => ?_))
      | exact ih0 _ _ _ _
      | exact ih1 _ _ _ _
      | exact ih2 _ _ _ _
      | exact tartanref01_Get.mono _ _
      | exact tartanref02_ends.mono _ _ _ _
      | exact LeO.none _
      | refine LeO.ite ?_ ?_
      | refine LeO.bind ?_ (fun _ => ?_)
    · intro y0 y1 y2 y3
      unfold tartanref02_Field.l0
      repeat' first
      | (with_reducible exact ih0 _ _ _ _)
      | (with_reducible exact ih1 _ _ _ _)
      | (with_reducible exact ih2 _ _ _ _)
      | (with_reducible exact tartanref01_Get.mono _ _)
      | (with_reducible exact tartanref02_ends.mono _ _ _ _)
      | (with_reducible exact LeO.refl _)
      | (with_reducible exact LeO.none _)
      | (with_reducible refine LeO.ite ?_ ?_)
      | (with_reducible refine LeO.bind ?_ (fun _ => ?_))
      | exact ih0 _ _ _ _
      | exact ih1 _ _ _ _
      | exact ih2 _ _ _ _
      | exact tartanref01_Get.mono _ _
      | exact tartanref02_ends.mono _ _ _ _
      | exact LeO.none _
      | refine LeO.ite ?_ ?_
      | refine LeO.bind ?_ (fun _ => ?_)
theorem tartanref02_Field.mono : ∀ a0 a1 a2 k, LeO (tartanref02_Field.f k a0 a1 a2) (tartanref02_Field.f (k + 1) a0 a1 a2) := by
  intro a0 a1 a2 k
  obtain ⟨ih0, ih1, ih2⟩ := tartanref02_Field.mono_l k
  unfold tartanref02_Field.f
  repeat' first
      | (with_reducible exact ih0 _ _ _ _)
      | (with_reducible exact ih1 _ _ _ _)
      | (with_reducible exact ih2 _ _ _ _)
      | (with_reducible exact tartanref01_Get.mono _ _)
      | (with_reducible exact tartanref02_ends.mono _ _ _ _)
      | (with_reducible exact LeO.refl _)
      | (with_reducible exact LeO.none _)
      | (with_reducible refine LeO.ite ?_ ?_)
      | (with_reducible refine LeO.bind ?_ (fun _ => ?_))
      | exact ih0 _ _ _ _
      | exact ih1 _ _ _ _
      | exact ih2 _ _ _ _
      | exact tartanref01_Get.mono _ _
      | exact tartanref02_ends.mono _ _ _ _
      | exact LeO.none _
      | refine LeO.ite ?_ ?_
      | refine LeO.bind ?_ (fun _ => ?_)
set_option maxHeartbeats 8000000 in
set_option maxRecDepth 100000 in
theorem tartanref02_Field.calls (k : Nat) (a0 : ByteArray) (a1 : Int) (a2 : Int) (r1 : ByteArray) (r2 : Int) (r3 : Int) (r4 : Int) (w : World) (h : tartanref02_Field.f k a0 a1 a2 = some (r1, r2, r3, r4)) :
    Calls Try.prog 35 #[.string a0, .int .i64 a1, .int .u8 a2] w fun e w' => e = .returned (.tuple #[.string r1, .int .i64 r2, .int .i64 r3, .int .i64 r4]) ∧ Drawn0 w w' := by
  have H : (if a1 < 0 then (tartanref02_Field.j0 k a0 a1 a2 true) else (tartanref02_Field.j0 k a0 a1 a2 (decide (a1 > (a0.size : Int))))) = some (r1, r2, r3, r4) := h
  clear h
  have HC4 := Aside0.mk H
  clear H
  go_enter Try.func35, Try.ntmps35
  go_upto_region 1 with (fail)
  go_cut [25] (fun v25 wc => ∃ (kq : Nat) (x25_3 : Bool), v25 = .bool x25_3 ∧ Aside0 (tartanref02_Field.j0 kq a0 a1 a2 x25_3 = some (r1, r2, r3, r4)) ∧ Aside0 (kq ≤ k) ∧ Drawn0 w wc)
  case first =>
    have H := HC4.out
    clear HC4
    by_cases c5 : a1 < 0
    · rw [if_pos c5] at H
      have c5b0 : decide (a1 < 0) = true := decide_eq_true c5
      clear c5
      (first | rw [c5b0] | (simp only [i64_w, i32_w]; rw [c5b0]) | skip)
      have H' := Aside0.mk H
      clear H
      go_wp2
      go_meet
      case rel => exact ⟨_, (true), (by first | rfl | (simp; done) | (simp [*]; done)), H', ⟨by first | omega | exact Nat.le_refl _⟩, by repeat (first | exact Drawn0.refl _ | apply Drawn0.step)⟩
    · rw [if_neg c5] at H
      have c5b0 : decide (a1 < 0) = false := decide_eq_false c5
      clear c5
      (first | rw [c5b0] | (simp only [i64_w, i32_w]; rw [c5b0]) | skip)
      have H' := Aside0.mk H
      clear H
      go_wp2
      go_meet
      case rel => exact ⟨_, (decide (a1 > (a0.size : Int))), (by first | rfl | (simp; done) | (simp [*]; done)), H', ⟨by first | omega | exact Nat.le_refl _⟩, by repeat (first | exact Drawn0.refl _ | apply Drawn0.step)⟩
  case rest =>
    clear HC4
    try clear p2
    try clear c3
    try clear c5
    try clear c5b0
    obtain ⟨kq, x25_3, rfl, HA, HJ3, ⟨mc3, rfl⟩⟩ := hcut
    cases kq with
    | zero => exact absurd HA.out (by simp [tartanref02_Field.j0])
    | succ kj3 =>
      have H := HA.out
      clear HA
      simp only [tartanref02_Field.j0] at H
      by_cases c6 : x25_3 = true
      · subst c6
        have H1 : (some ((⟨#[]⟩ : ByteArray), a1, 0, 11)) = some (r1, r2, r3, r4) := by rw [if_pos rfl] at H; exact H
        clear H
        have H := H1
        clear H1
        simp only [Option.some.injEq, Prod.mk.injEq] at H
        obtain ⟨rfl, rfl, rfl, rfl⟩ := H
        go_wp2
        refine bodyPost_ret (results_list (rs := [.tmp 6, .tmp 7, .tmp 8, .tmp 9]) rfl (by simp) (.tmp (.tmp (.tmp (.tmp .nil))))) rfl ?_
        exact ⟨by first | rfl | (simp; done) | (simp [*]; done), by repeat (first | exact Drawn0.refl _ | apply Drawn0.step)⟩
      · replace c6 := Bool.eq_false_iff.mpr c6
        subst c6
        have H1 : ((tartanref01_Good.f a2).bind fun t120 => (if t120 = true then (if a1 < (a0.size : Int) then (if 0 ≤ a1 then (tartanref02_Field.j1 kj3 a0 a1 a2 ((bt a0 a1) == 34)) else (none)) else (tartanref02_Field.j1 kj3 a0 a1 a2 false)) else (some ((⟨#[]⟩ : ByteArray), a1, 0, 2)))) = some (r1, r2, r3, r4) := by rw [if_neg (show ¬ (false = true) by decide)] at H; exact H
        clear H
        have H := H1
        clear H1
        replace H := Option.bind_eq_some_iff.mp H
        obtain ⟨t120, A70, H⟩ := H
        replace H : (if t120 = true then (if a1 < (a0.size : Int) then (if 0 ≤ a1 then (tartanref02_Field.j1 kj3 a0 a1 a2 ((bt a0 a1) == 34)) else (none)) else (tartanref02_Field.j1 kj3 a0 a1 a2 false)) else (some ((⟨#[]⟩ : ByteArray), a1, 0, 2))) = some (r1, r2, r3, r4) := H
        have A7 := Aside0.mk A70
        clear A70
        by_cases c8 : t120 = true
        · subst c8
          have H1 : (if a1 < (a0.size : Int) then (if 0 ≤ a1 then (tartanref02_Field.j1 kj3 a0 a1 a2 ((bt a0 a1) == 34)) else (none)) else (tartanref02_Field.j1 kj3 a0 a1 a2 false)) = some (r1, r2, r3, r4) := by rw [if_pos rfl] at H; exact H
          clear H
          have H := H1
          clear H1
          have HC9 := Aside0.mk H
          clear H
          go_upto_region 5 with (first | ((with_reducible refine gate_callee (f := 28) rfl ?_); refine goesL_ (some 28) rfl rfl Try.func28 (by kernel_rfl) rfl #[.int .u8 a2] rfl (by (try simp only [List.map_toArray, List.map_cons, List.map_nil]); first | done | rfl | (simp only [List.length_drop, List.length_take]; rfl)) ?_; (with_reducible refine (tartanref01_Good.calls a2 true _ A7.out).mono ?_); rintro e w' ⟨rfl, ⟨nd, rfl⟩⟩; refine ⟨_, rfl, ?_⟩))
          (try simp only [Act.put, List.setIfInBounds_toArray, List.set_cons_zero, List.set_cons_succ])
          go_cut [40] (fun v40 wc => ∃ (kq : Nat) (x40_8 : Bool), v40 = .bool x40_8 ∧ Aside0 (tartanref02_Field.j1 kq a0 a1 a2 x40_8 = some (r1, r2, r3, r4)) ∧ Aside0 (kq ≤ kj3) ∧ Drawn0 w wc)
          case first =>
            have H := HC9.out
            clear HC9
            by_cases c10 : a1 < (a0.size : Int)
            · rw [if_pos c10] at H
              have c10b0 : decide (a1 < (a0.size : Int)) = true := decide_eq_true c10
              clear c10
              (first | rw [c10b0] | (simp only [i64_w, i32_w]; rw [c10b0]) | skip)
              by_cases c11 : 0 ≤ a1
              · rw [if_pos c11] at H
                have c11b0 : decide (0 ≤ a1) = true := decide_eq_true c11
                clear c11
                have H' := Aside0.mk H
                clear H
                have p12 : 0 ≤ (a1 : Int) := of_decide_eq_true (by first | (with_reducible assumption) | assumption)
                have q12 : a1 < (a0.size : Int) := of_decide_eq_true (by first | (with_reducible assumption) | assumption)
                have hx12 := bt_at a0 a1
                replace p12 := eq_true p12
                replace q12 := eq_true q12
                go_wp2
                go_meet
                case rel => exact ⟨_, (((bt a0 a1) == 34)), (by first | rfl | (simp; done) | (simp [*]; done)), H', ⟨by have := HJ3.out; first | omega | exact Nat.le_refl _⟩, by repeat (first | exact Drawn0.refl _ | apply Drawn0.step)⟩
              · rw [if_neg c11] at H
                exact absurd H (by simp)
            · rw [if_neg c10] at H
              have c10b0 : decide (a1 < (a0.size : Int)) = false := decide_eq_false c10
              clear c10
              (first | rw [c10b0] | (simp only [i64_w, i32_w]; rw [c10b0]) | skip)
              have H' := Aside0.mk H
              clear H
              go_wp2
              go_meet
              case rel => exact ⟨_, (false), (by first | rfl | (simp; done) | (simp [*]; done)), H', ⟨by have := HJ3.out; first | omega | exact Nat.le_refl _⟩, by repeat (first | exact Drawn0.refl _ | apply Drawn0.step)⟩
          case rest =>
            clear HC9
            try clear c1
            try clear p1
            try clear q1
            try clear hx1
            try clear c2
            try clear p2
            try clear c3
            try clear c5
            try clear c5b0
            try clear c6
            try clear c8
            try clear c10
            try clear c10b0
            try clear c11
            try clear c11b0
            try clear p12
            try clear q12
            try clear hx12
            try clear p12
            try clear p2
            try clear q12
            obtain ⟨kq, x40_8, rfl, HA, HJ8, ⟨mc8, rfl⟩⟩ := hcut
            cases kq with
            | zero => exact absurd HA.out (by simp [tartanref02_Field.j1])
            | succ kj8 =>
              have H := HA.out
              clear HA
              simp only [tartanref02_Field.j1] at H
              by_cases c13 : x40_8 = true
              · subst c13
                have H1 : (if 0 ≤ a1 then (if a1 ≤ (a0.size : Int) then ((tartanref01_Get.f kj8 (a0.extract (a1 : Int).toNat a0.size)).bind fun bt121 => (if bt121.2.2 = 0 then ((tartanref02_ends.f kj8 a0 (wrap64 (a1 + bt121.2.1)) a2).bind fun bt124 => (if bt124.1 = 0 then (some ((⟨#[]⟩ : ByteArray), wrap64 (a1 + bt121.2.1), 0, 5)) else (some (bt121.1, bt124.2, bt124.1, 0)))) else (some ((⟨#[]⟩ : ByteArray), a1, 0, bt121.2.2)))) else (none)) else (none)) = some (r1, r2, r3, r4) := by rw [if_pos rfl] at H; exact H
                clear H
                have H := H1
                clear H1
                by_cases c14 : 0 ≤ a1
                · rw [if_pos c14] at H
                  have c14b0 := eq_true c14
                  have c14b1 : decide (0 ≤ a1) = true := decide_eq_true c14
                  clear c14
                  by_cases c15 : a1 ≤ (a0.size : Int)
                  · rw [if_pos c15] at H
                    have c15b0 := eq_true c15
                    have c15b1 : decide (a1 ≤ (a0.size : Int)) = true := decide_eq_true c15
                    clear c15
                    replace H := Option.bind_eq_some_iff.mp H
                    obtain ⟨⟨t121, t122, t123⟩, A160, H⟩ := H
                    replace H : (if t123 = 0 then ((tartanref02_ends.f kj8 a0 (wrap64 (a1 + t122)) a2).bind fun bt124 => (if bt124.1 = 0 then (some ((⟨#[]⟩ : ByteArray), wrap64 (a1 + t122), 0, 5)) else (some (t121, bt124.2, bt124.1, 0)))) else (some ((⟨#[]⟩ : ByteArray), a1, 0, t123))) = some (r1, r2, r3, r4) := H
                    have A16 := Aside0.mk A160
                    clear A160
                    by_cases c17 : t123 = 0
                    · rw [if_pos c17] at H
                      have c17b0 : (t123 == 0) = true := beq_iff_eq.mpr c17
                      have c17b1 : (t123 != 0) = false := bne_eq_false_iff_eq.mpr c17
                      clear c17
                      replace H := Option.bind_eq_some_iff.mp H
                      obtain ⟨⟨t124, t125⟩, A180, H⟩ := H
                      replace H : (if t124 = 0 then (some ((⟨#[]⟩ : ByteArray), wrap64 (a1 + t122), 0, 5)) else (some (t121, t125, t124, 0))) = some (r1, r2, r3, r4) := H
                      have A18 := Aside0.mk A180
                      clear A180
                      by_cases c19 : t124 = 0
                      · rw [if_pos c19] at H
                        have c19b0 : (t124 == 0) = true := beq_iff_eq.mpr c19
                        have c19b1 : (t124 != 0) = false := bne_eq_false_iff_eq.mpr c19
                        clear c19
                        simp only [Option.some.injEq, Prod.mk.injEq] at H
                        obtain ⟨rfl, rfl, rfl, rfl⟩ := H
                        go_wp2_with (first | ((with_reducible refine gate_callee (f := 32) rfl ?_); refine goesL_ (some 45) rfl rfl Try.func32 (by kernel_rfl) rfl #[.string (a0.extract (a1 : Int).toNat a0.size)] rfl (by (try simp only [List.map_toArray, List.map_cons, List.map_nil]); first | done | rfl | (simp only [List.length_drop, List.length_take]; rfl)) ?_; (with_reducible refine (tartanref01_Get.calls kj8 (a0.extract (a1 : Int).toNat a0.size) t121 t122 t123 _ A16.out).mono ?_); rintro e w' ⟨rfl, ⟨nd, rfl⟩⟩; refine ⟨_, rfl, ?_⟩) | ((with_reducible refine gate_callee (f := 60) rfl ?_); refine goesL_ (some 59) rfl rfl Try.func60 (by kernel_rfl) rfl #[.string a0, .int .i64 (wrap64 (a1 + t122)), .int .u8 a2] rfl (by (try simp only [List.map_toArray, List.map_cons, List.map_nil]); first | done | rfl | (simp only [List.length_drop, List.length_take]; rfl)) ?_; (with_reducible refine (tartanref02_ends.calls kj8 a0 (wrap64 (a1 + t122)) a2 t124 t125 _ A18.out).mono ?_); rintro e w' ⟨rfl, ⟨nd, rfl⟩⟩; refine ⟨_, rfl, ?_⟩))
                        refine bodyPost_ret (results_list (rs := [.tmp 6, .tmp 7, .tmp 8, .tmp 9]) rfl (by simp) (.tmp (.tmp (.tmp (.tmp .nil))))) rfl ?_
                        exact ⟨by first | rfl | (simp; done) | (simp [*]; done), by repeat (first | exact Drawn0.refl _ | apply Drawn0.step)⟩
                      · rw [if_neg c19] at H
                        have c19b0 : (t124 == 0) = false := beq_eq_false_iff_ne.mpr c19
                        have c19b1 : (t124 != 0) = true := bne_iff_ne.mpr c19
                        simp only [Option.some.injEq, Prod.mk.injEq] at H
                        obtain ⟨rfl, rfl, rfl, rfl⟩ := H
                        go_wp2_with (first | ((with_reducible refine gate_callee (f := 32) rfl ?_); refine goesL_ (some 45) rfl rfl Try.func32 (by kernel_rfl) rfl #[.string (a0.extract (a1 : Int).toNat a0.size)] rfl (by (try simp only [List.map_toArray, List.map_cons, List.map_nil]); first | done | rfl | (simp only [List.length_drop, List.length_take]; rfl)) ?_; (with_reducible refine (tartanref01_Get.calls kj8 (a0.extract (a1 : Int).toNat a0.size) t121 t122 t123 _ A16.out).mono ?_); rintro e w' ⟨rfl, ⟨nd, rfl⟩⟩; refine ⟨_, rfl, ?_⟩) | ((with_reducible refine gate_callee (f := 60) rfl ?_); refine goesL_ (some 59) rfl rfl Try.func60 (by kernel_rfl) rfl #[.string a0, .int .i64 (wrap64 (a1 + t122)), .int .u8 a2] rfl (by (try simp only [List.map_toArray, List.map_cons, List.map_nil]); first | done | rfl | (simp only [List.length_drop, List.length_take]; rfl)) ?_; (with_reducible refine (tartanref02_ends.calls kj8 a0 (wrap64 (a1 + t122)) a2 t124 t125 _ A18.out).mono ?_); rintro e w' ⟨rfl, ⟨nd, rfl⟩⟩; refine ⟨_, rfl, ?_⟩))
                        refine bodyPost_ret (results_list (rs := [.tmp 6, .tmp 7, .tmp 8, .tmp 9]) rfl (by simp) (.tmp (.tmp (.tmp (.tmp .nil))))) rfl ?_
                        exact ⟨by first | rfl | (simp; done) | (simp [*]; done), by repeat (first | exact Drawn0.refl _ | apply Drawn0.step)⟩
                    · rw [if_neg c17] at H
                      have c17b0 : (t123 == 0) = false := beq_eq_false_iff_ne.mpr c17
                      have c17b1 : (t123 != 0) = true := bne_iff_ne.mpr c17
                      simp only [Option.some.injEq, Prod.mk.injEq] at H
                      obtain ⟨rfl, rfl, rfl, rfl⟩ := H
                      go_wp2_with (first | ((with_reducible refine gate_callee (f := 32) rfl ?_); refine goesL_ (some 45) rfl rfl Try.func32 (by kernel_rfl) rfl #[.string (a0.extract (a1 : Int).toNat a0.size)] rfl (by (try simp only [List.map_toArray, List.map_cons, List.map_nil]); first | done | rfl | (simp only [List.length_drop, List.length_take]; rfl)) ?_; (with_reducible refine (tartanref01_Get.calls kj8 (a0.extract (a1 : Int).toNat a0.size) t121 t122 t123 _ A16.out).mono ?_); rintro e w' ⟨rfl, ⟨nd, rfl⟩⟩; refine ⟨_, rfl, ?_⟩))
                      refine bodyPost_ret (results_list (rs := [.tmp 6, .tmp 7, .tmp 8, .tmp 9]) rfl (by simp) (.tmp (.tmp (.tmp (.tmp .nil))))) rfl ?_
                      exact ⟨by first | rfl | (simp; done) | (simp [*]; done), by repeat (first | exact Drawn0.refl _ | apply Drawn0.step)⟩
                  · rw [if_neg c15] at H
                    exact absurd H (by simp)
                · rw [if_neg c14] at H
                  exact absurd H (by simp)
              · replace c13 := Bool.eq_false_iff.mpr c13
                subst c13
                have H1 : (tartanref02_Field.l0 kj8 a0 a1 a2 a1) = some (r1, r2, r3, r4) := by rw [if_neg (show ¬ (false = true) by decide)] at H; exact H
                clear H
                have H := H1
                clear H1
                have H' := Aside0.mk H
                clear H
                go_wp2
                go_loopg [15] kj8 (fun kq v15 w' => ∃ (x15_3 : Int), v15 = .int .i64 x15_3 ∧ Aside0 (tartanref02_Field.l0 kq a0 a1 a2 x15_3 = some (r1, r2, r3, r4)) ∧ Aside0 (kq ≤ kj8) ∧ Drawn0 w w')
                case atStart => exact ⟨(a1), (by first | rfl | (simp; done) | (simp [*]; done)), H', ⟨Nat.le_refl _⟩, by repeat (first | exact Drawn0.refl _ | apply Drawn0.step)⟩
                case round =>
                  clear H'
                  try clear c1
                  try clear p1
                  try clear q1
                  try clear hx1
                  try clear c2
                  try clear p2
                  try clear c3
                  try clear c5
                  try clear c5b0
                  try clear c6
                  try clear p6
                  try clear c8
                  try clear c10
                  try clear c10b0
                  try clear c11
                  try clear c11b0
                  try clear p12
                  try clear q12
                  try clear hx12
                  try clear c13
                  try clear c14
                  try clear c14b0
                  try clear c14b1
                  try clear c15
                  try clear c15b0
                  try clear c15b1
                  try clear c17
                  try clear c17b0
                  try clear c17b1
                  try clear c19
                  try clear c19b0
                  try clear c19b1
                  try clear p1
                  try clear p12
                  try clear p2
                  try clear q1
                  try clear q12
                  obtain ⟨x15_3, rfl, HA, HK3, ⟨m3, rfl⟩⟩ := hrel
                  cases gk with
                  | zero => exact absurd HA.out (by simp [tartanref02_Field.l0])
                  | succ k3 =>
                    have H := HA.out
                    clear HA
                    simp only [tartanref02_Field.l0] at H
                    by_cases c20 : x15_3 ≤ (a0.size : Int)
                    · rw [if_pos c20] at H
                      have c20b0 : decide (x15_3 ≤ (a0.size : Int)) = true := decide_eq_true c20
                      clear c20
                      replace H := Option.bind_eq_some_iff.mp H
                      obtain ⟨⟨t126, t127⟩, A210, H⟩ := H
                      replace H : (if t126 > 0 then (if 0 ≤ a1 then (if a1 ≤ x15_3 then (some (a0.extract (a1 : Int).toNat (x15_3 : Int).toNat, t127, t126, 0)) else (none)) else (none)) else (if 0 ≤ x15_3 then (if x15_3 < (a0.size : Int) then (if (bt a0 x15_3) = 34 then (some ((⟨#[]⟩ : ByteArray), x15_3, 0, 3)) else (if (bt a0 x15_3) = 13 then (some ((⟨#[]⟩ : ByteArray), x15_3, 0, 6)) else (tartanref02_Field.l0 k3 a0 a1 a2 (wrap64 (x15_3 + 1))))) else (none)) else (none))) = some (r1, r2, r3, r4) := H
                      have A21 := Aside0.mk A210
                      clear A210
                      by_cases c22 : t126 > 0
                      · rw [if_pos c22] at H
                        have c22b0 : decide (0 < t126) = true := decide_eq_true c22
                        clear c22
                        by_cases c23 : 0 ≤ a1
                        · rw [if_pos c23] at H
                          have c23b0 := eq_true c23
                          have c23b1 : decide (0 ≤ a1) = true := decide_eq_true c23
                          clear c23
                          by_cases c24 : a1 ≤ x15_3
                          · rw [if_pos c24] at H
                            have c24b0 := eq_true c24
                            have c24b1 : decide (a1 ≤ x15_3) = true := decide_eq_true c24
                            clear c24
                            have c25b0 := eq_true (of_decide_eq_true (by first | (with_reducible assumption) | assumption) : x15_3 ≤ (a0.size : Int))
                            simp only [Option.some.injEq, Prod.mk.injEq] at H
                            obtain ⟨rfl, rfl, rfl, rfl⟩ := H
                            go_wp2_with (first | ((with_reducible refine gate_callee (f := 60) rfl ?_); refine goesL_ (some 81) rfl rfl Try.func60 (by kernel_rfl) rfl #[.string a0, .int .i64 x15_3, .int .u8 a2] rfl (by (try simp only [List.map_toArray, List.map_cons, List.map_nil]); first | done | rfl | (simp only [List.length_drop, List.length_take]; rfl)) ?_; (with_reducible refine (tartanref02_ends.calls k3 a0 x15_3 a2 t126 t127 _ A21.out).mono ?_); rintro e w' ⟨rfl, ⟨nd, rfl⟩⟩; refine ⟨_, rfl, ?_⟩))
                            refine bodyPost_ret (results_list (rs := [.tmp 6, .tmp 7, .tmp 8, .tmp 9]) rfl (by simp) (.tmp (.tmp (.tmp (.tmp .nil))))) rfl ?_
                            exact ⟨by first | rfl | (simp; done) | (simp [*]; done), by repeat (first | exact Drawn0.refl _ | apply Drawn0.step)⟩
                          · rw [if_neg c24] at H
                            exact absurd H (by simp)
                        · rw [if_neg c23] at H
                          exact absurd H (by simp)
                      · rw [if_neg c22] at H
                        have c22b0 : decide (0 < t126) = false := decide_eq_false c22
                        clear c22
                        by_cases c26 : 0 ≤ x15_3
                        · rw [if_pos c26] at H
                          have c26b0 : decide (0 ≤ x15_3) = true := decide_eq_true c26
                          clear c26
                          by_cases c27 : x15_3 < (a0.size : Int)
                          · rw [if_pos c27] at H
                            have c27b0 : decide (x15_3 < (a0.size : Int)) = true := decide_eq_true c27
                            clear c27
                            by_cases c29 : (bt a0 x15_3) = 34
                            · rw [if_pos c29] at H
                              have c29b0 : ((bt a0 x15_3) == 34) = true := beq_iff_eq.mpr c29
                              have c29b1 : ((bt a0 x15_3) != 34) = false := bne_eq_false_iff_eq.mpr c29
                              clear c29
                              simp only [Option.some.injEq, Prod.mk.injEq] at H
                              obtain ⟨rfl, rfl, rfl, rfl⟩ := H
                              go_wp2_with (first | ((with_reducible refine gate_callee (f := 60) rfl ?_); refine goesL_ (some 81) rfl rfl Try.func60 (by kernel_rfl) rfl #[.string a0, .int .i64 x15_3, .int .u8 a2] rfl (by (try simp only [List.map_toArray, List.map_cons, List.map_nil]); first | done | rfl | (simp only [List.length_drop, List.length_take]; rfl)) ?_; (with_reducible refine (tartanref02_ends.calls k3 a0 x15_3 a2 t126 t127 _ A21.out).mono ?_); rintro e w' ⟨rfl, ⟨nd, rfl⟩⟩; refine ⟨_, rfl, ?_⟩; have p28 : 0 ≤ (x15_3 : Int) := of_decide_eq_true (by first | (with_reducible assumption) | assumption); have q28 : x15_3 < (a0.size : Int) := of_decide_eq_true (by first | (with_reducible assumption) | assumption); have hx28 := bt_at a0 x15_3; replace p28 := eq_true p28; replace q28 := eq_true q28))
                              refine bodyPost_ret (results_list (rs := [.tmp 6, .tmp 7, .tmp 8, .tmp 9]) rfl (by simp) (.tmp (.tmp (.tmp (.tmp .nil))))) rfl ?_
                              exact ⟨by first | rfl | (simp; done) | (simp [*]; done), by repeat (first | exact Drawn0.refl _ | apply Drawn0.step)⟩
                            · rw [if_neg c29] at H
                              have c29b0 : ((bt a0 x15_3) == 34) = false := beq_eq_false_iff_ne.mpr c29
                              have c29b1 : ((bt a0 x15_3) != 34) = true := bne_iff_ne.mpr c29
                              by_cases c31 : (bt a0 x15_3) = 13
                              · rw [if_pos c31] at H
                                have c31b0 : ((bt a0 x15_3) == 13) = true := beq_iff_eq.mpr c31
                                have c31b1 : ((bt a0 x15_3) != 13) = false := bne_eq_false_iff_eq.mpr c31
                                clear c31
                                simp only [Option.some.injEq, Prod.mk.injEq] at H
                                obtain ⟨rfl, rfl, rfl, rfl⟩ := H
                                go_wp2_with (first | ((with_reducible refine gate_callee (f := 60) rfl ?_); refine goesL_ (some 81) rfl rfl Try.func60 (by kernel_rfl) rfl #[.string a0, .int .i64 x15_3, .int .u8 a2] rfl (by (try simp only [List.map_toArray, List.map_cons, List.map_nil]); first | done | rfl | (simp only [List.length_drop, List.length_take]; rfl)) ?_; (with_reducible refine (tartanref02_ends.calls k3 a0 x15_3 a2 t126 t127 _ A21.out).mono ?_); rintro e w' ⟨rfl, ⟨nd, rfl⟩⟩; refine ⟨_, rfl, ?_⟩; have p28 : 0 ≤ (x15_3 : Int) := of_decide_eq_true (by first | (with_reducible assumption) | assumption); have q28 : x15_3 < (a0.size : Int) := of_decide_eq_true (by first | (with_reducible assumption) | assumption); have hx28 := bt_at a0 x15_3; replace p28 := eq_true p28; replace q28 := eq_true q28; have p30 : 0 ≤ (x15_3 : Int) := of_decide_eq_true (by first | (with_reducible assumption) | assumption); have q30 : x15_3 < (a0.size : Int) := of_decide_eq_true (by first | (with_reducible assumption) | assumption); have hx30 := bt_at a0 x15_3; replace p30 := eq_true p30; replace q30 := eq_true q30))
                                refine bodyPost_ret (results_list (rs := [.tmp 6, .tmp 7, .tmp 8, .tmp 9]) rfl (by simp) (.tmp (.tmp (.tmp (.tmp .nil))))) rfl ?_
                                exact ⟨by first | rfl | (simp; done) | (simp [*]; done), by repeat (first | exact Drawn0.refl _ | apply Drawn0.step)⟩
                              · rw [if_neg c31] at H
                                have c31b0 : ((bt a0 x15_3) == 13) = false := beq_eq_false_iff_ne.mpr c31
                                have c31b1 : ((bt a0 x15_3) != 13) = true := bne_iff_ne.mpr c31
                                have H' := Aside0.mk H
                                clear H
                                go_wp2_with (first | ((with_reducible refine gate_callee (f := 60) rfl ?_); refine goesL_ (some 81) rfl rfl Try.func60 (by kernel_rfl) rfl #[.string a0, .int .i64 x15_3, .int .u8 a2] rfl (by (try simp only [List.map_toArray, List.map_cons, List.map_nil]); first | done | rfl | (simp only [List.length_drop, List.length_take]; rfl)) ?_; (with_reducible refine (tartanref02_ends.calls k3 a0 x15_3 a2 t126 t127 _ A21.out).mono ?_); rintro e w' ⟨rfl, ⟨nd, rfl⟩⟩; refine ⟨_, rfl, ?_⟩; have p28 : 0 ≤ (x15_3 : Int) := of_decide_eq_true (by first | (with_reducible assumption) | assumption); have q28 : x15_3 < (a0.size : Int) := of_decide_eq_true (by first | (with_reducible assumption) | assumption); have hx28 := bt_at a0 x15_3; replace p28 := eq_true p28; replace q28 := eq_true q28; have p30 : 0 ≤ (x15_3 : Int) := of_decide_eq_true (by first | (with_reducible assumption) | assumption); have q30 : x15_3 < (a0.size : Int) := of_decide_eq_true (by first | (with_reducible assumption) | assumption); have hx30 := bt_at a0 x15_3; replace p30 := eq_true p30; replace q30 := eq_true q30))
                                go_roundg k3
                                case measure => have := HJ3.out; have := HJ8.out; have := HK3.out; omega
                                case rel => exact ⟨(wrap64 (x15_3 + 1)), (by first | rfl | (simp; done) | (simp [*]; done)), H', ⟨by have := HJ3.out; have := HJ8.out; have := HK3.out; omega⟩, by repeat (first | exact Drawn0.refl _ | apply Drawn0.step)⟩
                          · rw [if_neg c27] at H
                            exact absurd H (by simp)
                        · rw [if_neg c26] at H
                          exact absurd H (by simp)
                    · rw [if_neg c20] at H
                      have c20b0 : decide (x15_3 ≤ (a0.size : Int)) = false := decide_eq_false c20
                      clear c20
                      simp only [Option.some.injEq, Prod.mk.injEq] at H
                      obtain ⟨rfl, rfl, rfl, rfl⟩ := H
                      go_wp2
                      refine bodyPost_ret (results_list (rs := [.tmp 6, .tmp 7, .tmp 8, .tmp 9]) rfl (by simp) (.tmp (.tmp (.tmp (.tmp .nil))))) rfl ?_
                      exact ⟨by first | rfl | (simp; done) | (simp [*]; done), by repeat (first | exact Drawn0.refl _ | apply Drawn0.step)⟩
        · replace c8 := Bool.eq_false_iff.mpr c8
          subst c8
          have H1 : (some ((⟨#[]⟩ : ByteArray), a1, 0, 2)) = some (r1, r2, r3, r4) := by rw [if_neg (show ¬ (false = true) by decide)] at H; exact H
          clear H
          have H := H1
          clear H1
          simp only [Option.some.injEq, Prod.mk.injEq] at H
          obtain ⟨rfl, rfl, rfl, rfl⟩ := H
          go_wp2_with (first | ((with_reducible refine gate_callee (f := 28) rfl ?_); refine goesL_ (some 28) rfl rfl Try.func28 (by kernel_rfl) rfl #[.int .u8 a2] rfl (by (try simp only [List.map_toArray, List.map_cons, List.map_nil]); first | done | rfl | (simp only [List.length_drop, List.length_take]; rfl)) ?_; (with_reducible refine (tartanref01_Good.calls a2 false _ A7.out).mono ?_); rintro e w' ⟨rfl, ⟨nd, rfl⟩⟩; refine ⟨_, rfl, ?_⟩))
          refine bodyPost_ret (results_list (rs := [.tmp 6, .tmp 7, .tmp 8, .tmp 9]) rfl (by simp) (.tmp (.tmp (.tmp (.tmp .nil))))) rfl ?_
          exact ⟨by first | rfl | (simp; done) | (simp [*]; done), by repeat (first | exact Drawn0.refl _ | apply Drawn0.step)⟩

-- BY HAND: function 22 (tartanref01_Put)

/-! ### tartanref02_Write: function 47 -/
def tartanref02_Write.l0 : Nat → List ByteArray → Int → Bool → ByteArray → Int → Option (ByteArray)
  | 0, _, _, _, _, _ => none
  | k + 1, x0, x1, x2, x7, x8 => if x8 < (x0.length : Int) then (if x8 > 0 then ((some (([x1] : List Int) : List Int)).bind fun y128 => (if x7.size + (strOfNums y128).size ≤ 9223372036854775807 then (if 0 ≤ x8 then ((tartanref01_Put.f k (rdOf ByteArray.empty x0 x8) x1).bind fun t132 => (if (x7 ++ (strOfNums y128)).size + t132.size ≤ 9223372036854775807 then (tartanref02_Write.l0 k x0 x1 x2 ((x7 ++ (strOfNums y128)) ++ t132) (wrap64 (x8 + 1))) else (none))) else (none)) else (none))) else (if 0 ≤ x8 then ((tartanref01_Put.f k (rdOf ByteArray.empty x0 x8) x1).bind fun t134 => (if x7.size + t134.size ≤ 9223372036854775807 then (tartanref02_Write.l0 k x0 x1 x2 (x7 ++ t134) (wrap64 (x8 + 1))) else (none))) else (none))) else (if x2 = true then (if x7.size + 2 ≤ 9223372036854775807 then (some (x7 ++ (⟨#[13, 10]⟩ : ByteArray))) else (none)) else (if x7.size + 1 ≤ 9223372036854775807 then (some (x7 ++ (⟨#[10]⟩ : ByteArray))) else (none)))
def tartanref02_Write.f (k : Nat) (l0 : List ByteArray) (a1 : Int) (a2 : Bool) : Option (ByteArray) := tartanref02_Write.l0 k l0 a1 a2 (⟨#[]⟩ : ByteArray) 0
theorem tartanref02_Write.mono_l : ∀ k, (∀ y0 y1 y2 y3 y4, LeO (tartanref02_Write.l0 k y0 y1 y2 y3 y4) (tartanref02_Write.l0 (k + 1) y0 y1 y2 y3 y4))
  | 0 => fun _ _ _ _ _ r h => by simp [tartanref02_Write.l0] at h
  | k + 1 => by
    have ih0 := tartanref02_Write.mono_l k
    · intro y0 y1 y2 y3 y4
      unfold tartanref02_Write.l0
      repeat' first
      | (with_reducible exact ih0 _ _ _ _ _)
      | (with_reducible exact tartanref01_Put.mono _ _ _)
      | (with_reducible exact LeO.refl _)
      | (with_reducible exact LeO.none _)
      | (with_reducible refine LeO.ite ?_ ?_)
      | (with_reducible refine LeO.bind ?_ (fun _ => ?_))
      | exact ih0 _ _ _ _ _
      | exact tartanref01_Put.mono _ _ _
      | exact LeO.none _
      | refine LeO.ite ?_ ?_
      | refine LeO.bind ?_ (fun _ => ?_)
theorem tartanref02_Write.mono : ∀ a0 a1 a2 k, LeO (tartanref02_Write.f k a0 a1 a2) (tartanref02_Write.f (k + 1) a0 a1 a2) := by
  intro a0 a1 a2 k
  have ih0 := tartanref02_Write.mono_l k
  unfold tartanref02_Write.f
  repeat' first
      | (with_reducible exact ih0 _ _ _ _ _)
      | (with_reducible exact tartanref01_Put.mono _ _ _)
      | (with_reducible exact LeO.refl _)
      | (with_reducible exact LeO.none _)
      | (with_reducible refine LeO.ite ?_ ?_)
      | (with_reducible refine LeO.bind ?_ (fun _ => ?_))
      | exact ih0 _ _ _ _ _
      | exact tartanref01_Put.mono _ _ _
      | exact LeO.none _
      | refine LeO.ite ?_ ?_
      | refine LeO.bind ?_ (fun _ => ?_)
set_option maxHeartbeats 8000000 in
set_option maxRecDepth 100000 in
theorem tartanref02_Write.calls (k : Nat) (A0 : Option Addr) (c0 : Nat) (l0 : List ByteArray) (a1 : Int) (a2 : Bool) (r : ByteArray) (w : World) (hr0 : Kd.C Kd.string w A0 l0.length l0) (hc0 : l0.length ≤ c0) (h : tartanref02_Write.f k l0 a1 a2 = some r) :
    Calls Try.prog 47 #[.slice A0 l0.length c0, .int .u8 a1, .bool a2] w fun e w' => e = .returned (.string r) ∧ Below w.heap.size w w' := by
  have HR0 := Aside0.mk hr0
  have HC0 := Aside0.mk hc0
  clear hr0 hc0
  have HB := Aside0.mk (Below.refl w.heap.size w)
  have H : (tartanref02_Write.l0 k l0 a1 a2 (⟨#[]⟩ : ByteArray) 0) = some r := h
  clear h
  have H' := Aside0.mk H
  clear H
  go_enter Try.func47, Try.ntmps47
  go_wp2
  go_loopg [7, 8] k (fun kq v7 v8 w' => ∃ (x7_1 : ByteArray) (x8_1 : Int), v7 = .string x7_1 ∧ v8 = .int .i64 x8_1 ∧ Aside0 (tartanref02_Write.l0 kq l0 a1 a2 x7_1 x8_1 = some r) ∧ Aside0 (kq ≤ k) ∧ Aside0 (Below w.heap.size w w'))
  case atStart => exact ⟨((⟨#[]⟩ : ByteArray)), (0), (by first | rfl | (simp; done) | (simp [*]; done)), (by first | rfl | (simp; done) | (simp [*]; done)), H', ⟨Nat.le_refl _⟩, ⟨by repeat (first | (with_reducible first | exact HB.out | apply below_alloc | apply pw_below_drewN | apply below_drew1) | exact HB.out)⟩⟩
  case round =>
    clear H'
    try clear p2
    obtain ⟨x7_1, x8_1, rfl, rfl, HA, HK1, HB⟩ := hrel
    cases gk with
    | zero => exact absurd HA.out (by simp [tartanref02_Write.l0])
    | succ k1 =>
      have H := HA.out
      clear HA
      simp only [tartanref02_Write.l0] at H
      by_cases c4 : x8_1 < (l0.length : Int)
      · rw [if_pos c4] at H
        have c4b0 : decide (x8_1 < (l0.length : Int)) = true := decide_eq_true c4
        clear c4
        by_cases c5 : x8_1 > 0
        · rw [if_pos c5] at H
          have c5b0 : decide (0 < x8_1) = true := decide_eq_true c5
          clear c5
          obtain ⟨y128, hy128⟩ : ∃ y_ : List Int, y_ = (([a1] : List Int)) := ⟨_, rfl⟩
          replace H : (if x7_1.size + (strOfNums y128).size ≤ 9223372036854775807 then (if 0 ≤ x8_1 then ((tartanref01_Put.f k1 (rdOf ByteArray.empty l0 x8_1) a1).bind fun t132 => (if (x7_1 ++ (strOfNums y128)).size + t132.size ≤ 9223372036854775807 then (tartanref02_Write.l0 k1 l0 a1 a2 ((x7_1 ++ (strOfNums y128)) ++ t132) (wrap64 (x8_1 + 1))) else (none))) else (none)) else (none)) = some r := by first | (rw [hy128]; with_reducible exact H) | (have H2_ := (Option.bind_some _ _).symm.trans H; rw [hy128]; with_reducible exact H2_) | (have H2_ := (Option.bind_some _ _).symm.trans H; with_reducible exact H2_) | with_reducible exact H | (rw [hy128]; exact H) | exact H
          have Ny128 := Aside0.mk hy128
          clear hy128
          by_cases c6 : x7_1.size + (strOfNums y128).size ≤ 9223372036854775807
          · rw [if_pos c6] at H
            have c6b0 := eq_true c6
            have c6b1 : decide (x7_1.size + (strOfNums y128).size ≤ 9223372036854775807) = true := decide_eq_true c6
            try have c6b2 : (9223372036854775807 < x7_1.size + (strOfNums y128).size) = False := eq_false (Nat.not_lt.2 c6)
            try have c6b3 : (9223372036854775807 < x7_1.size + ((strOfNums y128).size)) = False := eq_false (by have q_ := c6; simp only [ByteArray.size_append, ByteArray.size_extract] at q_; (try simp only [show (⟨#[]⟩ : ByteArray).size = 0 from rfl, show ∀ (a : UInt8), (⟨#[a]⟩ : ByteArray).size = 1 from fun _ => rfl, show ∀ (a b : UInt8), (⟨#[a, b]⟩ : ByteArray).size = 2 from fun _ _ => rfl] at q_); omega)
            by_cases c7 : 0 ≤ x8_1
            · rw [if_pos c7] at H
              have c7b0 : decide (0 ≤ x8_1) = true := decide_eq_true c7
              clear c7
              replace H := Option.bind_eq_some_iff.mp H
              obtain ⟨t132, A80, H⟩ := H
              replace H : (if (x7_1 ++ (strOfNums y128)).size + t132.size ≤ 9223372036854775807 then (tartanref02_Write.l0 k1 l0 a1 a2 ((x7_1 ++ (strOfNums y128)) ++ t132) (wrap64 (x8_1 + 1))) else (none)) = some r := H
              have A8 := Aside0.mk A80
              clear A80
              by_cases c9 : (x7_1 ++ (strOfNums y128)).size + t132.size ≤ 9223372036854775807
              · rw [if_pos c9] at H
                have c9b0 := eq_true c9
                have c9b1 : decide ((x7_1 ++ (strOfNums y128)).size + t132.size ≤ 9223372036854775807) = true := decide_eq_true c9
                try have c9b2 : (9223372036854775807 < (x7_1 ++ (strOfNums y128)).size + t132.size) = False := eq_false (Nat.not_lt.2 c9)
                try have c9b3 : (9223372036854775807 < x7_1.size + ((strOfNums y128).size) + t132.size) = False := eq_false (by have q_ := c9; simp only [ByteArray.size_append, ByteArray.size_extract] at q_; (try simp only [show (⟨#[]⟩ : ByteArray).size = 0 from rfl, show ∀ (a : UInt8), (⟨#[a]⟩ : ByteArray).size = 1 from fun _ => rfl, show ∀ (a b : UInt8), (⟨#[a, b]⟩ : ByteArray).size = 2 from fun _ _ => rfl] at q_); omega)
                have H' := Aside0.mk H
                clear H
                go_wp2_with (first | ((with_reducible refine gate_dst (N := 19) rfl ?_); refine Kd.R_lit (Kd.int .u8) _ 5 ?hg (N := 19) ?hd (xs := ([a1] : List Int)) (inner := [.int .u8 a1]) (ok := fun _ => True) (okp := fun _ => True) ?hr ?hp (fun _ hk => hk) trivial (Below.refl _ _) (Nat.le_refl _) (by simp) ?_; (case hd => rfl); (case hg => rfl); (case hr => first | (go_simp; done) | (go_simp; rfl)); (case hp => exact (Reps.one (show Kd.M (Kd.int .u8) _ _ _ a1 [.int .u8 a1] from rfl) (Reps.none _ _))); intro v129 w10 ho11 hb hg_ hnew_; clear hg_ hnew_; (first | rw [← Ny128.out] at ho11 | (simp only [Int.reduceToNat] at ho11; rw [← Ny128.out] at ho11)); have n0_ := Aside0.mk (Kd.R_lower ho11 (below_size (by repeat (first | (with_reducible first | exact HB.out | apply below_alloc | apply pw_below_drewN | apply below_drew1) | exact HB.out)))); have n1_ := Aside0.mk (below_step (by repeat (first | (with_reducible first | exact HB.out | apply below_alloc | apply pw_below_drewN | apply below_drew1) | exact HB.out)) hb); clear HB; have HO130 := n0_; have HB := n1_; clear n0_ n1_; clear hb ho11; have hcv12 := own_string (P := Try.prog) Try.underlying54 Try.underlying5 Try.underlying9 (Kd.own_of_R HO130.out); have p131 : 0 ≤ (x8_1 : Int) := of_decide_eq_true (by first | (with_reducible assumption) | assumption); have q131 : x8_1 < (l0.length : Int) := of_decide_eq_true (by first | (with_reducible assumption) | assumption); obtain ⟨ad131, e131, hx131_0⟩ := Kd.at_string HR0.out x8_1 p131 q131; cases e131; replace hx131_0 := (HB.out.cell (World.block_lt_of_cell? w _ hx131_0)).trans hx131_0; replace p131 := eq_true p131; replace q131 := eq_true q131) | ((with_reducible refine gate_callee (f := 22) rfl ?_); refine goesL_ (some 28) rfl rfl Try.func22 (by kernel_rfl) rfl #[.string (rdOf ByteArray.empty l0 x8_1), .int .u8 a1] rfl (by (try simp only [List.map_toArray, List.map_cons, List.map_nil]); first | done | rfl | (simp only [List.length_drop, List.length_take]; rfl)) ?_; (with_reducible refine (tartanref01_Put.calls k1 (rdOf ByteArray.empty l0 x8_1) a1 t132 _ A8.out).mono ?_); rintro e w13 ⟨rfl, hb⟩; refine ⟨_, rfl, ?_⟩; have n0_ := Aside0.mk (Kd.R_below (by (with_reducible repeat (first | apply Kd.R_alloc | apply Kd.R_drewN | apply Kd.R_drew)); exact HO130.out) hb); have n1_ := Aside0.mk (below_step (by repeat (first | (with_reducible first | exact HB.out | apply below_alloc | apply pw_below_drewN | apply below_drew1) | exact HB.out)) hb); clear HO130; clear HB; have HO130 := n0_; have HB := n1_; clear n0_ n1_; (try clear hb); (try clear hb2); (try clear hk); (try clear hi)))
                go_roundg k1
                case measure => have := HK1.out; omega
                case rel => exact ⟨((x7_1 ++ (strOfNums y128)) ++ t132), (wrap64 (x8_1 + 1)), (by first | rfl | (simp; done) | (simp [*]; done)), (by first | rfl | (simp; done) | (simp [*]; done)), H', ⟨by have := HK1.out; omega⟩, ⟨by repeat (first | (with_reducible first | exact HB.out | apply below_alloc | apply pw_below_drewN | apply below_drew1) | exact HB.out)⟩⟩
              · rw [if_neg c9] at H
                exact absurd H (by simp)
            · rw [if_neg c7] at H
              exact absurd H (by simp)
          · rw [if_neg c6] at H
            exact absurd H (by simp)
        · rw [if_neg c5] at H
          have c5b0 : decide (0 < x8_1) = false := decide_eq_false c5
          clear c5
          by_cases c14 : 0 ≤ x8_1
          · rw [if_pos c14] at H
            have c14b0 : decide (0 ≤ x8_1) = true := decide_eq_true c14
            clear c14
            replace H := Option.bind_eq_some_iff.mp H
            obtain ⟨t134, A150, H⟩ := H
            replace H : (if x7_1.size + t134.size ≤ 9223372036854775807 then (tartanref02_Write.l0 k1 l0 a1 a2 (x7_1 ++ t134) (wrap64 (x8_1 + 1))) else (none)) = some r := H
            have A15 := Aside0.mk A150
            clear A150
            by_cases c16 : x7_1.size + t134.size ≤ 9223372036854775807
            · rw [if_pos c16] at H
              have c16b0 := eq_true c16
              have c16b1 : decide (x7_1.size + t134.size ≤ 9223372036854775807) = true := decide_eq_true c16
              try have c16b2 : (9223372036854775807 < x7_1.size + t134.size) = False := eq_false (Nat.not_lt.2 c16)
              have H' := Aside0.mk H
              clear H
              have p133 : 0 ≤ (x8_1 : Int) := of_decide_eq_true (by first | (with_reducible assumption) | assumption)
              have q133 : x8_1 < (l0.length : Int) := of_decide_eq_true (by first | (with_reducible assumption) | assumption)
              obtain ⟨ad133, e133, hx133_0⟩ := Kd.at_string HR0.out x8_1 p133 q133
              cases e133
              replace hx133_0 := (HB.out.cell (World.block_lt_of_cell? w _ hx133_0)).trans hx133_0
              replace p133 := eq_true p133
              replace q133 := eq_true q133
              go_wp2_with (first | ((with_reducible refine gate_callee (f := 22) rfl ?_); refine goesL_ (some 28) rfl rfl Try.func22 (by kernel_rfl) rfl #[.string (rdOf ByteArray.empty l0 x8_1), .int .u8 a1] rfl (by (try simp only [List.map_toArray, List.map_cons, List.map_nil]); first | done | rfl | (simp only [List.length_drop, List.length_take]; rfl)) ?_; (with_reducible refine (tartanref01_Put.calls k1 (rdOf ByteArray.empty l0 x8_1) a1 t134 _ A15.out).mono ?_); rintro e w17 ⟨rfl, hb⟩; refine ⟨_, rfl, ?_⟩; have n0_ := Aside0.mk (below_step (by repeat (first | (with_reducible first | exact HB.out | apply below_alloc | apply pw_below_drewN | apply below_drew1) | exact HB.out)) hb); clear HB; have HB := n0_; clear n0_; (try clear hb); (try clear hb2); (try clear hk); (try clear hi)))
              go_roundg k1
              case measure => have := HK1.out; omega
              case rel => exact ⟨(x7_1 ++ t134), (wrap64 (x8_1 + 1)), (by first | rfl | (simp; done) | (simp [*]; done)), (by first | rfl | (simp; done) | (simp [*]; done)), H', ⟨by have := HK1.out; omega⟩, ⟨by repeat (first | (with_reducible first | exact HB.out | apply below_alloc | apply pw_below_drewN | apply below_drew1) | exact HB.out)⟩⟩
            · rw [if_neg c16] at H
              exact absurd H (by simp)
          · rw [if_neg c14] at H
            exact absurd H (by simp)
      · rw [if_neg c4] at H
        have c4b0 : decide (x8_1 < (l0.length : Int)) = false := decide_eq_false c4
        clear c4
        by_cases c18 : a2 = true
        · subst c18
          have H1 : (if x7_1.size + 2 ≤ 9223372036854775807 then (some (x7_1 ++ (⟨#[13, 10]⟩ : ByteArray))) else (none)) = some r := by rw [if_pos rfl] at H; exact H
          clear H
          have H := H1
          clear H1
          by_cases c19 : x7_1.size + 2 ≤ 9223372036854775807
          · rw [if_pos c19] at H
            have c19b0 := eq_true c19
            have c19b1 : decide (x7_1.size + 2 ≤ 9223372036854775807) = true := decide_eq_true c19
            try have c19b2 : (9223372036854775807 < x7_1.size + 2) = False := eq_false (Nat.not_lt.2 c19)
            obtain rfl := Option.some.inj H
            go_wp2
            go_ret
            exact ⟨by first | rfl | (simp [errW_none, errW_some] <;> rfl) | (simp [*, errW_none, errW_some] <;> rfl), by repeat (first | (with_reducible first | exact HB.out | apply below_alloc | apply pw_below_drewN | apply below_drew1) | exact HB.out)⟩
          · rw [if_neg c19] at H
            exact absurd H (by simp)
        · replace c18 := Bool.eq_false_iff.mpr c18
          subst c18
          have H1 : (if x7_1.size + 1 ≤ 9223372036854775807 then (some (x7_1 ++ (⟨#[10]⟩ : ByteArray))) else (none)) = some r := by rw [if_neg (show ¬ (false = true) by decide)] at H; exact H
          clear H
          have H := H1
          clear H1
          by_cases c20 : x7_1.size + 1 ≤ 9223372036854775807
          · rw [if_pos c20] at H
            have c20b0 := eq_true c20
            have c20b1 : decide (x7_1.size + 1 ≤ 9223372036854775807) = true := decide_eq_true c20
            try have c20b2 : (9223372036854775807 < x7_1.size + 1) = False := eq_false (Nat.not_lt.2 c20)
            obtain rfl := Option.some.inj H
            go_wp2
            go_ret
            exact ⟨by first | rfl | (simp [errW_none, errW_some] <;> rfl) | (simp [*, errW_none, errW_some] <;> rfl), by repeat (first | (with_reducible first | exact HB.out | apply below_alloc | apply pw_below_drewN | apply below_drew1) | exact HB.out)⟩
          · rw [if_neg c20] at H
            exact absurd H (by simp)

end Go.Proofs.Ytggodagdfldndaa.Q.L

/-! What the printed Lean functions of chapter 1 come to, with enough rounds: the plain functions. -/
namespace Go.Proofs.Ytggodagdfldndaa.Q
open Go.RowKit Go.Proofs.YtggodagdfldndaaW.PrintWords Go.Proofs.YtggodagdfldndaaW.PrintLast

theorem bt_nat (s : ByteArray) (i : Nat) (h : i < s.size) : bt s i = (s[i].toNat : Int) := (bt_at s i (by simpa using h)).symm
theorem wrap_succ {i : Nat} {n : Nat} (h : i < n) (hn : n ≤ 140737488351232) (c : Nat) (hc : c ≤ 3) : wrap64 ((i : Int) + c) = ((i + c : Nat) : Int) := by
  unfold wrap64; omega
theorem u8_int_ne {c : UInt8} (d : UInt8) (h : c ≠ d) : ¬ (c.toNat : Int) = (d.toNat : Int) := fun e => h (UInt8.toNat_inj.1 (by omega))
theorem u8_int_eq {c : UInt8} (d : UInt8) (h : c = d) : (c.toNat : Int) = (d.toNat : Int) := by rw [h]
theorem b34_ne {c : UInt8} (h : c ≠ 34) : ¬ (c.toNat : Int) = 34 := u8_int_ne 34 h
theorem b34_eq {c : UInt8} (h : c = 34) : (c.toNat : Int) = 34 := u8_int_eq 34 h
theorem b34_ne' {c : UInt8} (h : c ≠ 34) : ((c.toNat : Int) != 34) = true := u8_ne' 34 h
theorem quote_Good_f (d : Int) : quote_Good.f d = some (goodI d) := by
  unfold quote_Good.f goodI
  by_cases h1 : d = 34
  · simp [h1]
  · by_cases h2 : d = 13
    · simp [h2]
    · by_cases h3 : d = 10 <;> simp [h1, h2, h3]
theorem quote_Plain_l0 (s : ByteArray) (d : Int) (hs : s.size ≤ 140737488351232) : ∀ (m k i : Nat), i + m = s.size → m < k → quote_Plain.l0 k s d (s.size : Int) i = some (plain ((toBs s).drop i) d) := by
  intro m
  induction m with
  | zero =>
    intro k i hi hk
    obtain ⟨k, rfl⟩ : ∃ q, k = q + 1 := ⟨k - 1, by omega⟩
    simp only [quote_Plain.l0]
    rw [if_neg (by omega), List.drop_eq_nil_of_le (by rw [size_toBs]; omega)]; rfl
  | succ m ih =>
    intro k i hi hk
    obtain ⟨k, rfl⟩ : ∃ q, k = q + 1 := ⟨k - 1, by omega⟩
    have hlt : i < s.size := by omega
    simp only [quote_Plain.l0]
    rw [if_pos (by omega), if_pos (by omega), if_pos (by omega), bt_nat s i hlt, drop_toBs s i hlt, quote_Good_f]
    simp only [Option.bind_some]
    have e := wrap_succ hlt hs 1 (by omega)
    rw [show ((1 : Nat) : Int) = 1 from rfl] at e
    rw [e, ih k (i + 1) (by omega) (by omega)]
    unfold plain
    rw [List.all_cons]
    by_cases h1 : (s[i].toNat : Int) = d
    · simp [h1]
    · rw [if_neg h1]
      by_cases h2 : goodI (s[i].toNat : Int) = true
      · simp [h2, h1]
      · simp [h2]
theorem quote_Plain_f (s : ByteArray) (d : Int) (hs : s.size ≤ 140737488351232) (k : Nat) (hk : s.size < k) : quote_Plain.f k s d = some (plain (toBs s) d) := by
  have := quote_Plain_l0 s d hs s.size k 0 (by omega) hk
  rwa [List.drop_zero] at this
theorem quote_Put_f (s : ByteArray) (d : Int) (hs : s.size ≤ 1048576) (k : Nat) (hk : s.size < k) : quote_Put.f k s d = some (ofBs (put (toBs s) d)) := by
  unfold quote_Put.f quote_Quoted.f put
  rw [quote_Plain_f s d (by omega) k hk]
  simp only [Option.bind_some]
  split
  · rw [ofBs_toBs]
  · simp only [if_pos hs, Option.bind_some]
theorem quote_Size_f (s : ByteArray) (d : Int) (hs : s.size ≤ 1048576) (k : Nat) (hk : s.size < k) : quote_Size.f k s d = some ((put (toBs s) d).length : Int) := by
  unfold quote_Size.f put
  rw [quote_Plain_f s d (by omega) k hk]
  simp only [Option.bind_some]
  split
  · rw [size_toBs]
  · have e : strings_Count.f s (strOfNums ([34] : List Int)) = some ((Lib.countByte (toBs s) 34 : Nat) : Int) := by
      have : toBs (strOfNums ([34] : List Int)) = [34] := by decide
      unfold strings_Count.f; rw [this]
    rw [e]
    simp only [Option.bind_some, quoted_length, Lib.countByte]
    have hc : (toBs s).count 34 ≤ (toBs s).length := List.count_le_length
    rw [size_toBs] at hc ⊢
    congr 1
    unfold wrap64; omega
theorem ref01_Good_f (d : Int) : tartanref01_Good.f d = some (goodI d) := by
  unfold tartanref01_Good.f goodI
  by_cases h1 : d = 34
  · simp [h1]
  · by_cases h2 : d = 13
    · simp [h2]
    · have e1 : (d != 34) = true := by simpa using h1
      have e2 : (d != 13) = true := by simpa using h2
      simp [h1, h2, e1, e2]
theorem ref01_Plain_l0 (s : ByteArray) (d : Int) (hs : s.size ≤ 140737488351232) : ∀ (m k i : Nat), i + m = s.size → m < k → tartanref01_Plain.l0 k s d i = some (plain ((toBs s).drop i) d) := by
  intro m
  induction m with
  | zero =>
    intro k i hi hk
    obtain ⟨k, rfl⟩ : ∃ q, k = q + 1 := ⟨k - 1, by omega⟩
    simp only [tartanref01_Plain.l0]
    rw [if_neg (by omega), List.drop_eq_nil_of_le (by rw [size_toBs]; omega)]; rfl
  | succ m ih =>
    intro k i hi hk
    obtain ⟨k, rfl⟩ : ∃ q, k = q + 1 := ⟨k - 1, by omega⟩
    have hlt : i < s.size := by omega
    simp only [tartanref01_Plain.l0]
    rw [if_pos (by omega), if_pos (by omega), bt_nat s i hlt, drop_toBs s i hlt]
    have e := wrap_succ hlt hs 1 (by omega)
    rw [show ((1 : Nat) : Int) = 1 from rfl] at e
    rw [e, ih k (i + 1) (by omega) (by omega)]
    unfold plain goodI
    rw [List.all_cons]
    generalize (s[i].toNat : Int) = c
    by_cases h1 : c = 34
    · simp [h1]
    · by_cases h2 : c = 13
      · simp [h2]
      · by_cases h3 : c = 10
        · simp [h3]
        · by_cases h4 : c = d <;> simp [h1, h2, h3, h4]
theorem ref01_Plain_f (s : ByteArray) (d : Int) (hs : s.size ≤ 140737488351232) (k : Nat) (hk : s.size < k) : tartanref01_Plain.f k s d = some (plain (toBs s) d) := by
  have := ref01_Plain_l0 s d hs s.size k 0 (by omega) hk
  rwa [List.drop_zero] at this
theorem toBs_tail (s : ByteArray) : toBs (s.extract 1 s.size) = (toBs s).drop 1 := Lib.extract_to_end s 1
theorem ref01_twice_f : ∀ (n : Nat) (s : ByteArray) (k : Nat), s.size = n → n ≤ 1048576 → n < k → tartanref01_twice.f k s = some (ofBs (twice (toBs s))) := by
  intro n
  induction n with
  | zero =>
    intro s k hs _ hk
    obtain ⟨k, rfl⟩ : ∃ q, k = q + 1 := ⟨k - 1, by omega⟩
    have e : toBs s = [] := List.length_eq_zero_iff.1 (by rw [size_toBs]; exact hs)
    simp only [tartanref01_twice.f]
    rw [if_pos (by rw [toList_toBs, e]), e]; rfl
  | succ n ih =>
    intro s k hs hb hk
    obtain ⟨k, rfl⟩ : ∃ q, k = q + 1 := ⟨k - 1, by omega⟩
    have h0 : 0 < s.size := by omega
    have e := drop_toBs s 0 h0
    rw [List.drop_zero] at e
    have hlen := twice_length_le (toBs (s.extract 1 s.size))
    rw [size_toBs, ByteArray.size_extract] at hlen
    have hrec := ih (s.extract 1 s.size) k (by rw [ByteArray.size_extract]; omega) (by omega) (by omega)
    have b0 := bt_nat s 0 h0
    simp only [tartanref01_twice.f]
    rw [if_neg (by rw [toList_toBs, e]; simp), if_pos (by omega), show bt s 0 = (s[0].toNat : Int) from b0, hrec]
    simp only [Option.bind_some]
    rw [toBs_tail, List.drop_one] at *
    have e2 : toBs s = s[0] :: (toBs s).tail := by rw [e]; rfl
    by_cases hc : s[0] = 34
    · rw [if_pos (by rw [hc]; rfl), if_pos (by omega), if_pos (by rw [size_ofBs]; omega), e2]
      rw [twice, if_pos hc]
      congr 1
    · rw [if_neg (b34_ne hc), if_pos (by omega), if_pos (by omega), if_pos (by rw [size_ofBs, ByteArray.size_extract]; omega)]
      have e3 : s.extract 0 1 = ofBs [s[0]] := by
        apply eq_ofBs
        rw [show toBs (s.extract 0 1) = ((toBs s).take 1).drop 0 from toBs_extract s 0 1, e2]; rfl
      rw [e3, ← ofBs_append]
      conv => rhs; rw [e2, twice, if_neg hc]
      rfl
theorem ref01_Quoted_f (s : ByteArray) (hs : s.size ≤ 1048576) (k : Nat) (hk : s.size < k) : tartanref01_Quoted.f k s = some (ofBs (quoted (toBs s))) := by
  unfold tartanref01_Quoted.f
  rw [ref01_twice_f s.size s k rfl hs hk]
  have hlen := twice_length_le (toBs s)
  rw [size_toBs] at hlen
  simp only [Option.bind_some]
  rw [if_pos (by rw [size_ofBs]; omega), if_pos (by rw [ByteArray.size_append, size_ofBs]; simp only [show (⟨#[34]⟩ : ByteArray).size = 1 from rfl]; omega)]
  rw [show (⟨#[34]⟩ : ByteArray) = ofBs [34] from rfl, ← ofBs_append, ← ofBs_append]
  rfl
theorem ref01_Put_f (s : ByteArray) (d : Int) (hs : s.size ≤ 1048576) (k : Nat) (hk : s.size < k) : tartanref01_Put.f k s d = some (ofBs (put (toBs s) d)) := by
  unfold tartanref01_Put.f put
  rw [ref01_Plain_f s d (by omega) k hk, ref01_Quoted_f s hs k hk]
  simp only [Option.bind_some]
  split
  · rw [ofBs_toBs]
  · rfl

theorem quote_Quoted_f (s : ByteArray) (hs : s.size ≤ 1048576) : quote_Quoted.f s = some (ofBs (quoted (toBs s))) := by unfold quote_Quoted.f; rw [if_pos hs]
theorem quote_Get_f (s : ByteArray) (hs : s.size ≤ 1048576) : quote_Get.f s = some (ofBs (getq (toBs s)).1, ((getq (toBs s)).2.1 : Int), ((getq (toBs s)).2.2 : Int)) := by unfold quote_Get.f; rw [if_pos hs]
/-- The document's examples. -/
theorem works01 (k : Nat) (hk : 10 < k) : tartanlaw01_works.f k = some true := by
  unfold tartanlaw01_works.f
  rw [quote_Get_f _ (by decide), quote_Get_f _ (by decide), quote_Get_f _ (by decide), quote_Put_f _ _ (by decide) k (by show 3 < k; omega), quote_Put_f _ _ (by decide) k (by show 3 < k; omega), quote_Quoted_f _ (by decide), quote_Plain_f _ _ (by decide) k (by show 2 < k; omega), quote_Plain_f _ _ (by decide) k (by show 2 < k; omega), quote_Size_f _ _ (by decide) k (by show 2 < k; omega), quote_Good_f, quote_Good_f]
  decide +kernel

theorem ref01_rest_l0 (s : ByteArray) (hs : s.size ≤ 1048576) : ∀ (m k i : Nat) (acc : Bs), s.size ≤ i + m → m < k → acc.length ≤ i → i ≤ s.size →
    tartanref01_rest.l0 k s (ofBs acc) i = some (match scan ((toBs s).drop i) with | none => (ofBs [], 0, false) | some p => (ofBs (acc ++ p.1), ((p.2 + i : Nat) : Int), true)) := by
  intro m
  induction m with
  | zero =>
    intro k i acc hi hk _ _
    obtain ⟨k, rfl⟩ : ∃ q, k = q + 1 := ⟨k - 1, by omega⟩
    simp only [tartanref01_rest.l0]
    rw [if_neg (by omega), List.drop_eq_nil_of_le (by rw [size_toBs]; omega)]; rfl
  | succ m ih =>
    intro k i acc hi hk ha hi2
    obtain ⟨k, rfl⟩ : ∃ q, k = q + 1 := ⟨k - 1, by omega⟩
    simp only [tartanref01_rest.l0]
    by_cases hlt : i < s.size
    · have e1 := wrap_succ hlt (by omega) 1 (by omega)
      have e2 := wrap_succ hlt (by omega) 2 (by omega)
      rw [show ((1 : Nat) : Int) = 1 from rfl] at e1
      rw [show ((2 : Nat) : Int) = 2 from rfl] at e2
      rw [if_pos (by omega), if_pos (by omega), bt_nat s i hlt, e1, e2, drop_toBs s i hlt]
      by_cases hc : s[i] = 34
      · rw [if_pos (b34_eq hc), hc]
        by_cases hlt2 : i + 1 < s.size
        · rw [if_pos (by omega), if_pos (by omega), bt_nat s (i + 1) hlt2, drop_toBs s (i + 1) hlt2]
          by_cases hd : s[i + 1] = 34
          · rw [if_pos (b34_eq hd), if_pos (by rw [size_ofBs]; omega), show (⟨#[34]⟩ : ByteArray) = ofBs [34] from rfl, ← ofBs_append, ih k (i + 2) (acc ++ [34]) (by omega) (by omega) (by simp; omega) (by omega), hd, scan_twice]
            cases scan ((toBs s).drop (i + 2)) with
            | none => rfl
            | some p => simp; omega
          · rw [if_neg (b34_ne hd), scan_end _ hd]
            simp; omega
        · rw [if_neg (by omega), List.drop_eq_nil_of_le (by rw [size_toBs]; omega), scan_end_nil]
          simp; omega
      · have e3 : s.extract ((i : Int)).toNat (((i + 1 : Nat) : Int)).toNat = ofBs [s[i]] := by
          apply eq_ofBs
          rw [toBs_extract]
          simp only [Int.toNat_natCast]
          rw [take_drop_snoc s i i hlt (Nat.le_refl _), List.drop_eq_nil_of_le (by rw [List.length_take]; omega)]; rfl
        rw [if_neg (b34_ne hc), if_pos (by omega), if_pos (by omega), e3, if_pos (by rw [size_ofBs, size_ofBs]; simp; omega), ← ofBs_append, ih k (i + 1) (acc ++ [s[i]]) (by omega) (by omega) (by simp; omega) (by omega), scan_other _ hc]
        cases scan ((toBs s).drop (i + 1)) with
        | none => rfl
        | some p => simp; omega
    · rw [if_neg (by omega), List.drop_eq_nil_of_le (by rw [size_toBs]; omega)]; rfl
theorem ref01_Get_f (s : ByteArray) (hs : s.size ≤ 1048576) (k : Nat) (hk : s.size + 3 < k) : tartanref01_Get.f k s = some (ofBs (getq (toBs s)).1, ((getq (toBs s)).2.1 : Int), ((getq (toBs s)).2.2 : Int)) := by
  obtain ⟨k, rfl⟩ : ∃ q, k = q + 1 := ⟨k - 1, by omega⟩
  unfold tartanref01_Get.f
  by_cases h0 : s.size = 0
  · rw [if_pos ((toList_eq_nil s).2 h0), getq_empty s h0]
    simp only [tartanref01_Get.j0]; rfl
  · have h0' : 0 < s.size := by omega
    rw [if_neg (fun e => h0 ((toList_eq_nil s).1 e)), if_pos (by omega), show bt s 0 = (s[0].toNat : Int) from bt_nat s 0 h0']
    simp only [tartanref01_Get.j0]
    by_cases hc : s[0] = 34
    · rw [if_neg (by rw [hc]; simp)]
      have hr := ref01_rest_l0 s hs s.size k 1 [] (by omega) (by omega) (by simp) (by omega)
      rw [show tartanref01_rest.f k s (⟨#[]⟩ : ByteArray) 1 = tartanref01_rest.l0 k s (ofBs []) ((1 : Nat) : Int) from rfl, hr]
      cases hs1 : scan ((toBs s).drop 1) with
      | none => rw [getq_none s h0' hc hs1]; rfl
      | some p => rw [getq_some s h0' hc p.1 p.2 hs1]; simp
    · rw [if_pos (b34_ne' hc), getq_other s h0' hc]; rfl
end Go.Proofs.Ytggodagdfldndaa.Q

/-! What the printed Lean functions of chapter 2 come to, with enough rounds: the plain functions. -/
namespace Go.Proofs.Ytggodagdfldndaa.Q.L
open Go.RowKit Go.Proofs.YtggodagdfldndaaW.PrintWords Go.Proofs.YtggodagdfldndaaW.PrintLast

/-- How long the break is that stands at a place. -/
def breakAt (s : Bs) (i : Int) : Nat := if i < 0 ∨ (s.length : Int) ≤ i then 0 else breakR (s.drop i.toNat)
theorem hasPrefix_f (s p : ByteArray) : strings_HasPrefix.f s p = some (decide ((toBs s).take p.size = toBs p)) := by
  unfold strings_HasPrefix.f stringslite_HasPrefix.f
  by_cases h : (s.size : Int) ≥ (p.size : Int)
  · rw [if_pos h, if_pos (by omega), if_pos (by omega), Option.bind_some]
    have e : (s.extract 0 ((p.size : Int)).toNat).toList = (toBs s).take p.size := by
      rw [toList_toBs, toBs_extract, Int.toNat_natCast, List.drop_zero]
    rw [e, toList_toBs]
    by_cases h2 : (toBs s).take p.size = toBs p <;> simp [h2]
  · rw [if_neg h, Option.bind_some]
    have : ¬ (toBs s).take p.size = toBs p := by
      intro e
      have e2 := congrArg List.length e
      rw [List.length_take, size_toBs, size_toBs] at e2
      omega
    simp [this]
theorem extract_nat (s : ByteArray) (i : Nat) : toBs (s.extract ((i : Int)).toNat s.size) = (toBs s).drop i := by
  rw [Int.toNat_natCast]; exact Lib.extract_to_end s i
theorem breakR_other (c : UInt8) (r : Bs) (h : c ≠ 10) : breakR (c :: r) = if (c :: r).take 2 = [13, 10] then 2 else 0 := by
  cases r with
  | nil => simp [breakR, h]
  | cons d r =>
    have e : ((c :: d :: r).take 2 = [13, 10]) ↔ (c = 13 ∧ d = 10) := by simp
    by_cases h2 : c = 13 ∧ d = 10
    · rw [if_pos (e.2 h2)]; simp [breakR, h, h2]
    · rw [if_neg (fun x => h2 (e.1 x))]
      simp only [breakR, if_neg h, if_neg h2]
theorem b10 {c : UInt8} : ((c.toNat : Int) = 10) ↔ c = 10 := ⟨fun h => Classical.byContradiction fun n => u8_int_ne 10 n h, fun h => u8_int_eq 10 h⟩
theorem b13 {c : UInt8} : ((c.toNat : Int) = 13) ↔ c = 13 := ⟨fun h => Classical.byContradiction fun n => u8_int_ne 13 n h, fun h => u8_int_eq 13 h⟩
theorem b34 {c : UInt8} : ((c.toNat : Int) = 34) ↔ c = 34 := ⟨fun h => Classical.byContradiction fun n => u8_int_ne 34 n h, fun h => u8_int_eq 34 h⟩
theorem endR_cons (c : UInt8) (r : Bs) (d : Int) : endR (c :: r) d = if (c.toNat : Int) = d then (1, 1) else if breakR (c :: r) = 0 then (0, 0) else (2, breakR (c :: r)) := rfl
theorem lex_Break_at (s : ByteArray) (i k : Nat) (hi : i < s.size) : lex_Break.f (k + 1) s i = some ((breakR ((toBs s).drop i) : Nat) : Int) := by
  unfold lex_Break.f
  rw [if_neg (by omega), decide_eq_false (by omega)]
  simp only [lex_Break.j0]
  rw [if_neg (by decide), if_pos (by omega), if_pos (by omega), bt_nat s i hi]
  have e := drop_toBs s i hi
  by_cases hc : s[i] = 10
  · rw [if_pos (b10.2 hc), e, hc]
    cases (toBs s).drop (i + 1) <;> rfl
  · rw [if_neg (fun h => hc (b10.1 h)), if_pos (by omega), hasPrefix_f, Option.bind_some, extract_nat, e, breakR_other _ _ hc]
    have e2 : toBs (⟨#[13, 10]⟩ : ByteArray) = [13, 10] := by decide
    have e3 : (⟨#[13, 10]⟩ : ByteArray).size = 2 := rfl
    rw [e2, e3]
    by_cases h2 : List.take 2 (s[i] :: List.drop (i + 1) (toBs s)) = [13, 10]
    · rw [decide_eq_true h2, if_pos h2]; rfl
    · rw [decide_eq_false h2, if_neg h2]; rfl
theorem lex_Break_f (s : ByteArray) (i : Int) (k : Nat) : lex_Break.f (k + 1) s i = some ((breakAt (toBs s) i : Nat) : Int) := by
  unfold breakAt
  by_cases h : i < 0 ∨ ((toBs s).length : Int) ≤ i
  · rw [if_pos h]
    rw [size_toBs] at h
    unfold lex_Break.f
    rcases h with h | h
    · rw [if_pos h]; simp only [lex_Break.j0]; rfl
    · rw [if_neg (by omega), decide_eq_true h]; simp only [lex_Break.j0]; rfl
  · rw [if_neg h]
    rw [size_toBs] at h
    obtain ⟨n, rfl⟩ := Int.eq_ofNat_of_zero_le (show 0 ≤ i by omega)
    rw [lex_Break_at s n k (by omega)]; rfl
theorem ref02_Break_at (s : ByteArray) (i k : Nat) (hi : i < s.size) (hs : s.size ≤ 140737488351232) : tartanref02_Break.f (k + 1) s i = some ((breakR ((toBs s).drop i) : Nat) : Int) := by
  unfold tartanref02_Break.f
  rw [if_neg (by omega), decide_eq_false (by omega)]
  simp only [tartanref02_Break.j0]
  have e1 := wrap_succ hi hs 1 (by omega)
  rw [show ((1 : Nat) : Int) = 1 from rfl] at e1
  rw [if_neg (by decide), if_pos (by omega), if_pos (by omega), bt_nat s i hi, e1]
  have e := drop_toBs s i hi
  by_cases hc : s[i] = 10
  · rw [if_pos (b10.2 hc), e, hc]
    cases (toBs s).drop (i + 1) <;> rfl
  · rw [if_neg (fun h => hc (b10.1 h)), e]
    by_cases h13 : s[i] = 13
    · rw [if_pos (b13.2 h13)]
      by_cases h2 : i + 1 < s.size
      · rw [if_pos (by omega), if_pos (by omega), bt_nat s (i + 1) h2, drop_toBs s (i + 1) h2]
        by_cases h10 : s[i + 1] = 10
        · rw [if_pos (b10.2 h10), h13, h10]; rfl
        · rw [if_neg (fun h => h10 (b10.1 h))]; simp [breakR, h10, h13]
      · rw [if_neg (by omega), List.drop_eq_nil_of_le (by rw [size_toBs]; omega), h13]; rfl
    · rw [if_neg (fun h => h13 (b13.1 h))]
      cases (toBs s).drop (i + 1) <;> simp [breakR, hc, h13]
theorem ref02_Break_f (s : ByteArray) (i : Int) (k : Nat) (hs : s.size ≤ 140737488351232) : tartanref02_Break.f (k + 1) s i = some ((breakAt (toBs s) i : Nat) : Int) := by
  unfold breakAt
  by_cases h : i < 0 ∨ ((toBs s).length : Int) ≤ i
  · rw [if_pos h]
    rw [size_toBs] at h
    unfold tartanref02_Break.f
    rcases h with h | h
    · rw [if_pos h]; simp only [tartanref02_Break.j0]; rfl
    · rw [if_neg (by omega), decide_eq_true h]; simp only [tartanref02_Break.j0]; rfl
  · rw [if_neg h]
    rw [size_toBs] at h
    obtain ⟨n, rfl⟩ := Int.eq_ofNat_of_zero_le (show 0 ≤ i by omega)
    rw [ref02_Break_at s n k (by omega) hs]; rfl
theorem wrap_nat (a b : Nat) (h : a + b ≤ 9223372036854775807) : wrap64 ((a : Int) + (b : Int)) = ((a + b : Nat) : Int) := by unfold wrap64; omega
theorem lex_end_f (s : ByteArray) (i k : Nat) (d : Int) (hi : i ≤ s.size) (hs : s.size ≤ 140737488351232) :
    lex_end.f (k + 1) s i d = some (((endR ((toBs s).drop i) d).1 : Int), ((i + (endR ((toBs s).drop i) d).2 : Nat) : Int)) := by
  unfold lex_end.f
  by_cases h : i = s.size
  · rw [if_pos (by omega), endR_nil s d i (by omega)]; rfl
  · have hlt : i < s.size := by omega
    rw [if_neg (by omega), if_pos (by omega), if_pos (by omega), bt_nat s i hlt, lex_Break_at s i k hlt, Option.bind_some]
    have hb := breakR_le ((toBs s).drop i)
    rw [wrap_nat i _ (by omega), show wrap64 ((i : Int) + 1) = ((i + 1 : Nat) : Int) from wrap_nat i 1 (by omega)]
    rw [drop_toBs s i hlt] at hb ⊢
    rw [endR_cons]
    by_cases hd : (s[i].toNat : Int) = d
    · rw [if_pos hd, if_pos hd]; rfl
    · rw [if_neg hd, if_neg hd]
      by_cases h0 : breakR (s[i] :: (toBs s).drop (i + 1)) = 0
      · rw [if_pos h0, if_neg (by omega)]; rfl
      · rw [if_neg h0, if_pos (by omega)]; rfl
theorem ref02_ends_f (s : ByteArray) (i k : Nat) (d : Int) (hi : i ≤ s.size) (hs : s.size ≤ 140737488351232) :
    tartanref02_ends.f (k + 1) s i d = some (((endR ((toBs s).drop i) d).1 : Int), ((i + (endR ((toBs s).drop i) d).2 : Nat) : Int)) := by
  unfold tartanref02_ends.f
  by_cases h : i = s.size
  · rw [if_pos (by omega), endR_nil s d i (by omega), h]; rfl
  · have hlt : i < s.size := by omega
    rw [if_neg (by omega), if_pos (by omega), if_pos (by omega), bt_nat s i hlt, ref02_Break_at s i k hlt hs, Option.bind_some]
    have hb := breakR_le ((toBs s).drop i)
    rw [wrap_nat i _ (by omega), show wrap64 ((i : Int) + 1) = ((i + 1 : Nat) : Int) from wrap_nat i 1 (by omega)]
    rw [drop_toBs s i hlt] at hb ⊢
    rw [endR_cons]
    by_cases hd : (s[i].toNat : Int) = d
    · rw [if_pos hd, if_pos hd]; rfl
    · rw [if_neg hd, if_neg hd]
      by_cases h0 : breakR (s[i] :: (toBs s).drop (i + 1)) = 0
      · rw [if_pos h0, if_neg (by omega)]; rfl
      · rw [if_neg h0, if_pos (by omega)]; rfl
theorem getq_le (l : Bs) : (getq l).2.1 ≤ l.length := by
  by_cases h : (getq l).2.2 = 0
  · exact (getq_only l (getq l).1 (getq l).2.1 (by rw [← h])).2.1
  · rw [(getq_fault l h).2]; exact Nat.zero_le _
theorem lex_quoted_f (s : ByteArray) (i k : Nat) (d : Int) (hi : i ≤ s.size) (hs : s.size ≤ 1048576) :
    lex_quoted.f (k + 1) s i d = some (ofBs (quotedF d ((toBs s).drop i)).1, ((i + (quotedF d ((toBs s).drop i)).2.1 : Nat) : Int), ((quotedF d ((toBs s).drop i)).2.2.1 : Int), ((quotedF d ((toBs s).drop i)).2.2.2 : Int)) := by
  unfold lex_quoted.f
  rw [if_pos (by omega), if_pos (by omega), quote_Get_f _ (by rw [ByteArray.size_extract]; omega), Option.bind_some, extract_nat]
  have hn := getq_le ((toBs s).drop i)
  rw [List.length_drop, size_toBs] at hn
  unfold quotedF
  dsimp only
  by_cases h0 : (getq ((toBs s).drop i)).2.2 = 0
  · rw [if_pos (by omega), if_pos h0, wrap_nat i _ (by omega), lex_end_f s _ k d (by omega) (by omega), Option.bind_some]
    dsimp only
    have e : List.drop (getq ((toBs s).drop i)).2.1 ((toBs s).drop i) = (toBs s).drop (i + (getq ((toBs s).drop i)).2.1) := by rw [List.drop_drop]
    rw [e]
    by_cases h1 : (endR ((toBs s).drop (i + (getq ((toBs s).drop i)).2.1)) d).1 = 0
    · rw [if_pos (by omega), if_pos h1]; rfl
    · rw [if_neg (by omega), if_neg h1]; simp only [Nat.add_assoc]; rfl
  · rw [if_neg (by omega), if_neg h0]; rfl
end Go.Proofs.Ytggodagdfldndaa.Q.L

/-! lex.Field walked: it hands back what the plain 'field' says. -/
namespace Go.Proofs.Ytggodagdfldndaa.Q.L
open Go.RowKit Go.Shelf Go.Proofs.YtggodagdfldndaaW.PrintWords
set_option maxHeartbeats 1000000 in
set_option maxRecDepth 100000 in
theorem wrong_make (b : Nat) (sg e : Int) (w : World) :
    Calls Try.prog 57 #[.int .u8 sg, .int .i64 e, .pointer (some ⟨b, 0, none⟩)] w fun r w' =>
      r = .returned (.func (.func 58) #[] #[.pointer (some ⟨b, 0, none⟩), .pointer (some ⟨w.heap.size, 0, none⟩), .pointer (some ⟨w.heap.size + 1, 0, none⟩)]) ∧
      w' = (w.alloc (.cells #[.int .u8 sg] 5)).alloc (.cells #[.int .i64 e] 28) := by
  go_enter Try.func57, Try.ntmps57
  go_wp2
  go_ret
  exact ⟨rfl, rfl⟩
set_option maxHeartbeats 1000000 in
set_option maxRecDepth 100000 in
theorem look_yes (s : ByteArray) (b b1 b2 i : Nat) (sg e : Int) (w : World) (hi : i < s.size) (hm : s.size ≤ 1048576) (hc : w.cell? ⟨b, 0, none⟩ = some (.string s)) (hc1 : w.cell? ⟨b1, 0, none⟩ = some (.int .u8 sg)) (hc2 : w.cell? ⟨b2, 0, none⟩ = some (.int .i64 e))
    (h : ((s[i].toNat : Int) == sg) = true) :
    Calls Try.prog 58 #[.int .i64 i, .pointer (some ⟨b, 0, none⟩), .pointer (some ⟨b1, 0, none⟩), .pointer (some ⟨b2, 0, none⟩)] w fun r w' => r = .returned (.int .i64 e) ∧ ∃ n, w' = w.drewN n := by
  have h0 : (0 : Int) ≤ i := by omega
  have h1 : (i : Int) < (s.size : Int) := by omega
  go_enter Try.func58, Try.ntmps58
  go_wp2
  go_quiet (fail)
  go_wp2
  go_ret
  exact ⟨rfl, _, rfl⟩
set_option maxHeartbeats 1000000 in
set_option maxRecDepth 100000 in
theorem look_no (s : ByteArray) (b b1 b2 i : Nat) (sg e : Int) (w : World) (hi : i < s.size) (hm : s.size ≤ 1048576) (hc : w.cell? ⟨b, 0, none⟩ = some (.string s)) (hc1 : w.cell? ⟨b1, 0, none⟩ = some (.int .u8 sg)) (hc2 : w.cell? ⟨b2, 0, none⟩ = some (.int .i64 e))
    (h : ((s[i].toNat : Int) == sg) = false) :
    Calls Try.prog 58 #[.int .i64 i, .pointer (some ⟨b, 0, none⟩), .pointer (some ⟨b1, 0, none⟩), .pointer (some ⟨b2, 0, none⟩)] w fun r w' => r = .returned (.int .i64 0) ∧ ∃ n, w' = w.drewN n := by
  have h0 : (0 : Int) ≤ i := by omega
  have h1 : (i : Int) < (s.size : Int) := by omega
  go_enter Try.func58, Try.ntmps58
  go_wp2
  go_quiet (fail)
  go_wp2
  go_ret
  exact ⟨rfl, _, rfl⟩

/-- What the call hands back. -/
def FieldPost (s : ByteArray) (a d : Int) (w : World) (e : Ending) (w' : World) : Prop :=
  e = .returned (.tuple #[.string (ofBs (field (toBs s) a d).1), .int .i64 (field (toBs s) a d).2.1, .int .i64 (field (toBs s) a d).2.2.1, .int .i64 (field (toBs s) a d).2.2.2]) ∧ Below w.heap.size w w'
theorem fieldPost_mk {s : ByteArray} {a d : Int} {w w' : World} {c : ByteArray} {n k e : Int} (h1 : ofBs (field (toBs s) a d).1 = c) (h2 : (field (toBs s) a d).2.1 = n) (h3 : ((field (toBs s) a d).2.2.1 : Int) = k) (h4 : ((field (toBs s) a d).2.2.2 : Int) = e) (hb : Below w.heap.size w w') :
    FieldPost s a d w (.returned (.tuple #[.string c, .int .i64 n, .int .i64 k, .int .i64 e])) w' := by
  subst h1 h2 h3 h4; exact ⟨rfl, hb⟩
set_option maxHeartbeats 1000000 in
set_option maxRecDepth 100000 in
theorem field_below (s : ByteArray) (a d : Int) (w : World) (h : a < 0) : Calls Try.prog 34 #[.string s, .int .i64 a, .int .u8 d] w (FieldPost s a d w) := by
  have hf : field (toBs s) a d = ([], a, 0, 11) := by unfold field; rw [if_pos (Or.inl h)]
  have Hf := Lib.hid hf
  clear hf
  have hx : decide (a < 0) = true := decide_eq_true h
  go_enter Try.func34, Try.ntmps34
  go_wp2
  go_step3
  go_wp2
  rw [Exit.noGoto_ret]
  refine bodyPost_ret (results_list (rs := [.tmp 6, .tmp 7, .tmp 8, .tmp 9]) rfl (by simp) (.tmp (.tmp (.tmp (.tmp .nil))))) rfl ?_
  exact fieldPost_mk (by rw [Hf.out]; rfl) (by rw [Hf.out]) (by rw [Hf.out]; rfl) (by rw [Hf.out]; rfl) ((Below.refl _ _).alloc (Nat.le_refl _) _)
set_option maxHeartbeats 1000000 in
set_option maxRecDepth 100000 in
theorem field_above (s : ByteArray) (a d : Int) (w : World) (h0 : ¬ a < 0) (h : (s.size : Int) < a) : Calls Try.prog 34 #[.string s, .int .i64 a, .int .u8 d] w (FieldPost s a d w) := by
  have hf : field (toBs s) a d = ([], a, 0, 11) := by unfold field; rw [if_pos (Or.inr (by rw [size_toBs]; exact h))]
  have Hf := Lib.hid hf
  clear hf
  have hx : decide (a < 0) = false := decide_eq_false h0
  have hx2 : decide ((s.size : Int) < a) = true := decide_eq_true h
  go_enter Try.func34, Try.ntmps34
  go_wp2
  go_step3
  go_wp2
  rw [Exit.noGoto_ret]
  refine bodyPost_ret (results_list (rs := [.tmp 6, .tmp 7, .tmp 8, .tmp 9]) rfl (by simp) (.tmp (.tmp (.tmp (.tmp .nil))))) rfl ?_
  exact fieldPost_mk (by rw [Hf.out]; rfl) (by rw [Hf.out]) (by rw [Hf.out]; rfl) (by rw [Hf.out]; rfl) ((Below.refl _ _).alloc (Nat.le_refl _) _)
set_option maxHeartbeats 1000000 in
set_option maxRecDepth 100000 in
theorem field_delim (s : ByteArray) (n : Nat) (d : Int) (w : World) (hn : n ≤ s.size) (hm : s.size ≤ 1048576) (hg : goodI d = false) : Calls Try.prog 34 #[.string s, .int .i64 n, .int .u8 d] w (FieldPost s n d w) := by
  have hf : field (toBs s) n d = ([], (n : Int), 0, 2) := by unfold field; rw [if_neg (by rw [size_toBs]; omega), if_neg (by rw [hg]; decide)]
  have Hf := Lib.hid hf
  have hgf : quote_Good.f d = some false := by rw [quote_Good_f, hg]
  have Hg := Lib.hid hgf
  clear hf hgf
  have hx : decide ((n : Int) < 0) = false := decide_eq_false (by omega)
  have hx2 : decide ((s.size : Int) < n) = false := decide_eq_false (by omega)
  go_enter Try.func34, Try.ntmps34
  go_wp2
  go_step3
  go_wp2_with fail
  refine (quote_Good.calls d false _ Hg.out).mono ?_
  rintro e w' ⟨rfl, ⟨nd, rfl⟩⟩
  go_wp2
  rw [Exit.noGoto_ret]
  refine bodyPost_ret (results_list (rs := [.tmp 6, .tmp 7, .tmp 8, .tmp 9]) rfl (by simp) (.tmp (.tmp (.tmp (.tmp .nil))))) rfl ?_
  exact fieldPost_mk (by rw [Hf.out]; rfl) (by rw [Hf.out]) (by rw [Hf.out]; rfl) (by rw [Hf.out]; rfl) (by first | exact ((Below.refl _ _).alloc (Nat.le_refl _) _) | exact pw_below_drewN ((Below.refl _ _).alloc (Nat.le_refl _) _) _)
end Go.Proofs.Ytggodagdfldndaa.Q.L

/-! lex.Field walked on: a field in quotes, and a plain one (the loop over places, and over the two looks at each). -/
namespace Go.Proofs.Ytggodagdfldndaa.Q.L
open Go.RowKit Go.Shelf Go.Proofs.YtggodagdfldndaaW.PrintWords
set_option maxHeartbeats 1000000 in
set_option maxRecDepth 100000 in
theorem field_quotes (s : ByteArray) (n : Nat) (d : Int) (w : World) (hn : n ≤ s.size) (hm : s.size ≤ 1048576) (hg : goodI d = true) (hq : ((toBs s).drop n).head? = some 34) :
    Calls Try.prog 34 #[.string s, .int .i64 n, .int .u8 d] w (FieldPost s n d w) := by
  have hf : field (toBs s) n d = ((quotedF d ((toBs s).drop n)).1, (n : Int) + (quotedF d ((toBs s).drop n)).2.1, (quotedF d ((toBs s).drop n)).2.2.1, (quotedF d ((toBs s).drop n)).2.2.2) := by
    unfold field
    rw [if_neg (by rw [size_toBs]; omega), if_pos hg, Int.toNat_natCast]
    unfold fieldR
    rw [if_pos hq]
  have Hf := Lib.hid hf
  have Hg := Lib.hid (show quote_Good.f d = some true by rw [quote_Good_f, hg])
  have Hp := Lib.hid (show strings_HasPrefix.f (s.extract n s.size) (⟨#[34]⟩ : ByteArray) = some true by
    rw [hasPrefix_f]
    have e : toBs (s.extract n s.size) = (toBs s).drop n := Lib.extract_to_end s n
    have e2 : toBs (⟨#[34]⟩ : ByteArray) = [34] := by decide
    rw [e, e2, show (⟨#[34]⟩ : ByteArray).size = 1 from rfl, decide_eq_true]
    cases hl : (toBs s).drop n with
    | nil => rw [hl] at hq; cases hq
    | cons c r => rw [hl] at hq; simp at hq; rw [hq]; rfl)
  have Hq := Lib.hid (lex_quoted_f s n 0 d hn hm)
  clear hf hq
  have hx : decide ((n : Int) < 0) = false := decide_eq_false (by omega)
  have hx2 : decide ((s.size : Int) < n) = false := decide_eq_false (by omega)
  have b1 : (0 : Int) ≤ n := by omega
  have b2 : (n : Int) ≤ (s.size : Int) := by omega
  go_enter Try.func34, Try.ntmps34
  go_wp2
  go_step3
  go_wp2_with fail
  refine (quote_Good.calls d true _ Hg.out).mono ?_
  rintro e w' ⟨rfl, ⟨nd, rfl⟩⟩
  go_wp2_with fail
  refine (strings_HasPrefix.calls _ _ true _ Hp.out).mono ?_
  rintro e w' ⟨rfl, ⟨nd2, rfl⟩⟩
  go_wp2_with fail
  refine (lex_quoted.calls 1 s n d _ _ _ _ _ Hq.out).mono ?_
  rintro e w' ⟨rfl, hb⟩
  go_wp2
  rw [Exit.noGoto_ret]
  refine bodyPost_ret (results_list (rs := [.tmp 6, .tmp 7, .tmp 8, .tmp 9]) rfl (by simp) (.tmp (.tmp (.tmp (.tmp .nil))))) rfl ?_
  exact fieldPost_mk (by rw [Hf.out]) (by rw [Hf.out]) (by rw [Hf.out]) (by rw [Hf.out]) (Below.trans (by first | exact ((Below.refl _ _).alloc (Nat.le_refl _) _) | exact pw_below_drewN ((Below.refl _ _).alloc (Nat.le_refl _) _) _) (hb.mono (by simp)))
end Go.Proofs.Ytggodagdfldndaa.Q.L

/-! lex.Field walked on: a plain field: the loop over places, and over the two looks at each. -/
namespace Go.Proofs.Ytggodagdfldndaa.Q.L
open Go.RowKit Go.Shelf Go.Proofs.YtggodagdfldndaaW.PrintWords
/-- What the loops read: the text, the two looks. -/
structure FW (b : Nat) (s : ByteArray) (W : World) : Prop where
  cS : W.cell? ⟨b, 0, none⟩ = some (.string s)
  c1 : W.cell? ⟨b + 1, 0, none⟩ = some (.int .u8 34)
  c2 : W.cell? ⟨b + 1 + 1, 0, none⟩ = some (.int .i64 3)
  c3 : W.cell? ⟨b + 1 + 1 + 1, 0, none⟩ = some (.int .u8 13)
  c4 : W.cell? ⟨b + 1 + 1 + 1 + 1, 0, none⟩ = some (.int .i64 6)
  f0 : W.cell? ⟨b + 1 + 1 + 1 + 1 + 1, 0, none⟩ = some (.func (.func 58) #[] #[.pointer (some ⟨b, 0, none⟩), .pointer (some ⟨b + 1, 0, none⟩), .pointer (some ⟨b + 1 + 1, 0, none⟩)])
  f1 : W.cell? ⟨b + 1 + 1 + 1 + 1 + 1, 1, none⟩ = some (.func (.func 58) #[] #[.pointer (some ⟨b, 0, none⟩), .pointer (some ⟨b + 1 + 1 + 1, 0, none⟩), .pointer (some ⟨b + 1 + 1 + 1 + 1, 0, none⟩)])
theorem FW.drewN {b : Nat} {s : ByteArray} {W : World} (h : FW b s W) (n : Nat) : FW b s (W.drewN n) := ⟨h.cS, h.c1, h.c2, h.c3, h.c4, h.f0, h.f1⟩
theorem FW.start (w : World) (s : ByteArray) (n : Nat) : FW w.heap.size s ((((((w.alloc (.cells #[.string s] 9)).drewN n).alloc (.cells #[.int .u8 34] 5)).alloc (.cells #[.int .i64 3] 28)).alloc (.cells #[.int .u8 13] 5)).alloc (.cells #[.int .i64 6] 28) |>.alloc (.cells #[.func (.func 58) #[] #[.pointer (some ⟨w.heap.size, 0, none⟩), .pointer (some ⟨w.heap.size + 1, 0, none⟩), .pointer (some ⟨w.heap.size + 1 + 1, 0, none⟩)], .func (.func 58) #[] #[.pointer (some ⟨w.heap.size, 0, none⟩), .pointer (some ⟨w.heap.size + 1 + 1 + 1, 0, none⟩), .pointer (some ⟨w.heap.size + 1 + 1 + 1 + 1, 0, none⟩)]] 69)) := by
  have hn : ∀ (W : World) (o : Obj) (m : Nat), W.heap.size = m → (W.alloc o).heap[m]? = some o := fun W o m hm => by rw [← hm]; exact heap_alloc_new W o
  have ho : ∀ (W : World) (o x : Obj) (k : Nat), W.heap[k]? = some x → (W.alloc o).heap[k]? = some x := fun W o x k h => by
    rw [Lib.alloc_old W o k (Array.getElem?_eq_some_iff.1 h).1]; exact h
  have hc : ∀ (W : World) (k j : Nat) (cs : Array Value) (T : TypeId) (v : Value), W.heap[k]? = some (.cells cs T (0, 0)) → cs[j]? = some v → W.cell? ⟨k, j, none⟩ = some v := fun W k j cs T v h1 h2 => by rw [Lib.cell_of_heap h1]; exact h2
  refine ⟨hc _ _ _ _ 9 _ (ho _ _ _ _ (ho _ _ _ _ (ho _ _ _ _ (ho _ _ _ _ (ho _ _ _ _ (hn w _ _ rfl)))))) rfl,
    hc _ _ _ _ 5 _ (ho _ _ _ _ (ho _ _ _ _ (ho _ _ _ _ (ho _ _ _ _ (hn _ _ _ ?_))))) rfl,
    hc _ _ _ _ 28 _ (ho _ _ _ _ (ho _ _ _ _ (ho _ _ _ _ (hn _ _ _ ?_)))) rfl,
    hc _ _ _ _ 5 _ (ho _ _ _ _ (ho _ _ _ _ (hn _ _ _ ?_))) rfl,
    hc _ _ _ _ 28 _ (ho _ _ _ _ (hn _ _ _ ?_)) rfl,
    hc _ _ _ _ 69 _ (hn _ _ _ ?_) rfl,
    hc _ _ _ _ 69 _ (hn _ _ _ ?_) rfl⟩
  all_goals simp
theorem below_fw (w : World) (s : ByteArray) (n : Nat) {a b c d e : Obj} : Below w.heap.size w ((((((w.alloc (.cells #[.string s] 9)).drewN n).alloc a).alloc b).alloc c).alloc d |>.alloc e) :=
  (((((pw_below_drewN ((Below.refl _ w).alloc (Nat.le_refl _) _) n).alloc (by simp) _).alloc (by simp; omega) _).alloc (by simp; omega) _).alloc (by simp; omega) _).alloc (by simp; omega) _
set_option maxHeartbeats 4000000 in
set_option maxRecDepth 100000 in
theorem field_plain (s : ByteArray) (n : Nat) (d : Int) (w : World) (hn : n ≤ s.size) (hm : s.size ≤ 1048576) (hg : goodI d = true) (hq : ((toBs s).drop n).head? ≠ some 34) :
    Calls Try.prog 34 #[.string s, .int .i64 n, .int .u8 d] w (FieldPost s n d w) := by
  have hf : field (toBs s) n d = ((plainF d ((toBs s).drop n)).1, (n : Int) + (plainF d ((toBs s).drop n)).2.1, (plainF d ((toBs s).drop n)).2.2.1, (plainF d ((toBs s).drop n)).2.2.2) := by
    unfold field
    rw [if_neg (by rw [size_toBs]; omega), if_pos hg, Int.toNat_natCast]
    unfold fieldR
    rw [if_neg hq]
  have Hf := Lib.hid hf
  have Hg := Lib.hid (show quote_Good.f d = some true by rw [quote_Good_f, hg])
  have Hp := Lib.hid (show strings_HasPrefix.f (s.extract n s.size) (⟨#[34]⟩ : ByteArray) = some false by
    rw [hasPrefix_f]
    have e : toBs (s.extract n s.size) = (toBs s).drop n := Lib.extract_to_end s n
    have e2 : toBs (⟨#[34]⟩ : ByteArray) = [34] := by decide
    rw [e, e2, show (⟨#[34]⟩ : ByteArray).size = 1 from rfl, decide_eq_false]
    intro h
    cases hl : (toBs s).drop n with
    | nil => rw [hl] at h; cases h
    | cons c r => rw [hl] at h hq; simp at h; simp [h] at hq)
  clear hf hq
  have hx : decide ((n : Int) < 0) = false := decide_eq_false (by omega)
  have hx2 : decide ((s.size : Int) < n) = false := decide_eq_false (by omega)
  have b1 : (0 : Int) ≤ n := by omega
  have b2 : (n : Int) ≤ (s.size : Int) := by omega
  go_enter Try.func34, Try.ntmps34
  go_wp2
  go_step3
  go_wp2_with fail
  refine (quote_Good.calls d true _ Hg.out).mono ?_
  rintro e w' ⟨rfl, ⟨nd, rfl⟩⟩
  go_wp2_with fail
  refine (strings_HasPrefix.calls _ _ false _ Hp.out).mono ?_
  rintro e w' ⟨rfl, ⟨nd2, rfl⟩⟩
  go_wp2_with fail
  refine (wrong_make _ 34 3 _).mono ?_
  rintro e w' ⟨rfl, rfl⟩
  go_wp2_with fail
  refine (wrong_make _ 13 6 _).mono ?_
  rintro e w' ⟨rfl, rfl⟩
  go_wp2_with fail
  go_step3
  go_wp2_with fail
  go_loopw [12] (fun i wr => ∃ k : Nat, n ≤ k ∧ k ≤ s.size ∧ i = .int .i64 k ∧ FW w.heap.size s wr ∧ Below w.heap.size w wr ∧ FRel d (toBs s) n k) (fun i _ => s.size - (intOf i).toNat)
  case atStart => exact ⟨n, Nat.le_refl _, hn, rfl, FW.start w s _, below_fw w s _, fRel_start _ _ _⟩
  case round =>
    obtain ⟨k, hk1, hk2, rfl, hFW, hB, hR⟩ := hrel
    have HR := Lib.hid hR
    clear hR
    have hcS := hFW.cS
    by_cases he : (endR ((toBs s).drop k) d).1 = 0
    · have hklt : k < s.size := by
        rcases Nat.lt_or_ge k s.size with h | h
        · exact h
        · rw [endR_nil s d k h] at he; cases he
      have hend := lex_end_f s k 0 d hk2 (by omega)
      rw [he] at hend
      generalize hln : (endR ((toBs s).drop k) d).2 = ln at *
      have Hend := Lib.hid hend
      have HE := Lib.hid he
      clear hend hln he
      go_wp2_with fail
      refine (lex_end.calls 1 s k d _ _ _ Hend.out).mono ?_
      rintro e w' ⟨rfl, ⟨nd, rfl⟩⟩
      have hFW2 := hFW.drewN nd
      have hB2 := pw_below_drewN hB nd
      clear hFW hB hcS
      have hkx : (k : Int) < (s.size : Int) := by omega
      go_wp2_with fail
      obtain ⟨wo, hwo⟩ : ∃ wo : World, wo = wr := ⟨_, rfl⟩
      clear hwo
      go_loopw [67] (fun j wi => ∃ m : Nat, m ≤ 2 ∧ j = .int .i64 m ∧ FW w.heap.size s wi ∧ Below w.heap.size w wi ∧ (1 ≤ m → s[k] ≠ 34) ∧ (2 ≤ m → s[k] ≠ 13)) (fun j _ => 2 - (intOf j).toNat)
      case atStart => exact ⟨0, by omega, rfl, hFW2, hB2, by omega, by omega⟩
      case round =>
        obtain ⟨m, hm2, rfl, hFW3, hB3, hm34, hm13⟩ := hrel
        clear hFW2 hB2
        have hf0 := hFW3.f0
        have hf1 := hFW3.f1
        obtain rfl | rfl | rfl : m = 0 ∨ m = 1 ∨ m = 2 := by omega
        · by_cases hc : s[k] = 34
          · have Hfin := Lib.hid ((fRel_bad d s n k hk1 hklt HE.out HR.out).1 hc)
            have hcx : ((s[k].toNat : Int) == 34) = true := u8_eq 34 hc
            clear hc hm34 hm13
            go_wp2_with fail
            refine (look_yes s _ _ _ k 34 3 _ hklt hm hFW3.cS hFW3.c1 hFW3.c2 hcx).mono ?_
            rintro e w' ⟨rfl, ⟨q, rfl⟩⟩
            go_wp2
            rw [Exit.noGoto_ret]
            refine bodyPost_ret (results_list (rs := [.tmp 6, .tmp 7, .tmp 8, .tmp 9]) rfl (by simp) (.tmp (.tmp (.tmp (.tmp .nil))))) rfl ?_
            exact fieldPost_mk (by rw [Hf.out, Hfin.out]; rfl) (by rw [Hf.out, Hfin.out]; simp only []; omega) (by rw [Hf.out, Hfin.out]; rfl) (by rw [Hf.out, Hfin.out]; rfl) (pw_below_drewN hB3 q)
          · have hcx : ((s[k].toNat : Int) == 34) = false := u8_ne 34 hc
            have Hc := Lib.hid hc
            clear hc hm34 hm13
            go_wp2_with fail
            refine (look_no s _ _ _ k 34 3 _ hklt hm hFW3.cS hFW3.c1 hFW3.c2 hcx).mono ?_
            rintro e w' ⟨rfl, ⟨q, rfl⟩⟩
            go_wp2
            go_roundw
            case rel => exact ⟨1, by omega, rfl, hFW3.drewN q, pw_below_drewN hB3 q, fun _ => Hc.out, by omega⟩
            case measure => simp [intOf]
        · have H34 := Lib.hid (hm34 (by omega))
          clear hm34 hm13
          by_cases hc : s[k] = 13
          · have Hfin := Lib.hid ((fRel_bad d s n k hk1 hklt HE.out HR.out).2 H34.out hc)
            have hcx : ((s[k].toNat : Int) == 13) = true := u8_eq 13 hc
            clear hc
            go_wp2_with fail
            refine (look_yes s _ _ _ k 13 6 _ hklt hm hFW3.cS hFW3.c3 hFW3.c4 hcx).mono ?_
            rintro e w' ⟨rfl, ⟨q, rfl⟩⟩
            go_wp2
            rw [Exit.noGoto_ret]
            refine bodyPost_ret (results_list (rs := [.tmp 6, .tmp 7, .tmp 8, .tmp 9]) rfl (by simp) (.tmp (.tmp (.tmp (.tmp .nil))))) rfl ?_
            exact fieldPost_mk (by rw [Hf.out, Hfin.out]; rfl) (by rw [Hf.out, Hfin.out]; simp only []; omega) (by rw [Hf.out, Hfin.out]; rfl) (by rw [Hf.out, Hfin.out]; rfl) (pw_below_drewN hB3 q)
          · have hcx : ((s[k].toNat : Int) == 13) = false := u8_ne 13 hc
            have Hc := Lib.hid hc
            clear hc
            go_wp2_with fail
            refine (look_no s _ _ _ k 13 6 _ hklt hm hFW3.cS hFW3.c3 hFW3.c4 hcx).mono ?_
            rintro e w' ⟨rfl, ⟨q, rfl⟩⟩
            go_wp2
            go_roundw
            case rel => exact ⟨2, by omega, rfl, hFW3.drewN q, pw_below_drewN hB3 q, fun _ => H34.out, fun _ => Hc.out⟩
            case measure => simp [intOf]
        · have Hn := Lib.hid (fRel_next d s n k hk1 hklt HE.out (hm34 (by omega)) (hm13 (by omega)) HR.out)
          clear hm34 hm13
          go_wp2
          go_roundw
          case rel => exact ⟨k + 1, by omega, by omega, by go_num, hFW3, hB3, Hn.out⟩
          case measure => simp [intOf]; omega
    · have He := Lib.hid (fRel_end d s n k hk1 hk2 he HR.out)
      have hend := lex_end_f s k 0 d hk2 (by omega)
      generalize hkd : (endR ((toBs s).drop k) d).1 = kd at *
      generalize hln : (endR ((toBs s).drop k) d).2 = ln at *
      have Hend := Lib.hid hend
      clear hend hkd hln
      have hpos : decide ((0 : Int) < (kd : Int)) = true := by simp; omega
      go_wp2_with fail
      refine (lex_end.calls 1 s k d _ _ _ Hend.out).mono ?_
      rintro e w' ⟨rfl, ⟨nd, rfl⟩⟩
      have hcS2 := (hFW.drewN nd).cS
      have b3 : (n : Int) ≤ (k : Int) := by omega
      have b4 : (k : Int) ≤ (s.size : Int) := by omega
      go_wp2
      rw [Exit.noGoto_ret]
      refine bodyPost_ret (results_list (rs := [.tmp 6, .tmp 7, .tmp 8, .tmp 9]) rfl (by simp) (.tmp (.tmp (.tmp (.tmp .nil))))) rfl ?_
      exact fieldPost_mk (by rw [Hf.out, He.out]; exact ofBs_toBs _) (by rw [Hf.out, He.out]; simp only []; omega) (by rw [Hf.out, He.out]) (by rw [Hf.out, He.out]; rfl) (pw_below_drewN hB nd)
end Go.Proofs.Ytggodagdfldndaa.Q.L

/-! lex.Field and lex.Write in the form that the printed walks take. -/
namespace Go.Proofs.Ytggodagdfldndaa.Q.L
open Go.RowKit Go.Shelf Go.Proofs.YtggodagdfldndaaW.PrintWords Go.Proofs.YtggodagdfldndaaW.PrintLast Go.Proofs.YtggodagdfldndaaW.PrintMore
/-- lex.Field, as a plain function. -/
def lex_Field.f (a0 : ByteArray) (a1 : Int) (a2 : Int) : Option (ByteArray × Int × Int × Int) :=
  if a0.size ≤ 1048576 then some (ofBs (field (toBs a0) a1 a2).1, (field (toBs a0) a1 a2).2.1, ((field (toBs a0) a1 a2).2.2.1 : Int), ((field (toBs a0) a1 a2).2.2.2 : Int)) else none
theorem field_walk (s : ByteArray) (a d : Int) (w : World) (hm : s.size ≤ 1048576) : Calls Try.prog 34 #[.string s, .int .i64 a, .int .u8 d] w (FieldPost s a d w) := by
  by_cases h0 : a < 0
  · exact field_below s a d w h0
  · by_cases h1 : (s.size : Int) < a
    · exact field_above s a d w h0 h1
    · obtain ⟨n, rfl⟩ := Int.eq_ofNat_of_zero_le (show 0 ≤ a by omega)
      have hn : n ≤ s.size := by omega
      cases hg : goodI d with
      | false => exact field_delim s n d w hn hm hg
      | true =>
        by_cases hq : ((toBs s).drop n).head? = some 34
        · exact field_quotes s n d w hn hm hg hq
        · exact field_plain s n d w hn hm hg hq
theorem lex_Field.calls (a0 : ByteArray) (a1 : Int) (a2 : Int) (r1 : ByteArray) (r2 : Int) (r3 : Int) (r4 : Int) (w : World) (h : lex_Field.f a0 a1 a2 = some (r1, r2, r3, r4)) :
    Calls Try.prog 34 #[.string a0, .int .i64 a1, .int .u8 a2] w fun e w' => e = .returned (.tuple #[.string r1, .int .i64 r2, .int .i64 r3, .int .i64 r4]) ∧ Below w.heap.size w w' := by
  unfold lex_Field.f at h
  by_cases hs : a0.size ≤ 1048576
  · rw [if_pos hs] at h
    simp only [Option.some.injEq, Prod.mk.injEq] at h
    obtain ⟨rfl, rfl, rfl, rfl⟩ := h
    exact field_walk a0 a1 a2 w hs
  · rw [if_neg hs] at h; cases h
/-- lex.Write, as a plain function. -/
def lex_Write.f (k : Nat) (l0 : List ByteArray) (a1 : Int) (a2 : Bool) : Option ByteArray :=
  (lex_record_write.f k l0 a1).bind fun t =>
    if a2 = true then (if t.size + 2 ≤ 9223372036854775807 then some (t ++ (⟨#[13, 10]⟩ : ByteArray)) else none) else (if t.size + 1 ≤ 9223372036854775807 then some (t ++ (⟨#[10]⟩ : ByteArray)) else none)
theorem lex_Write.mono : ∀ l0 a1 a2 k, LeO (lex_Write.f k l0 a1 a2) (lex_Write.f (k + 1) l0 a1 a2) := by
  intro l0 a1 a2 k
  unfold lex_Write.f
  exact LeO.bind (lex_record_write.mono _ _ _) (fun _ => LeO.refl _)
set_option maxHeartbeats 1000000 in
set_option maxRecDepth 100000 in
theorem write_crlf (k : Nat) (A0 : Option Addr) (c0 : Nat) (l0 : List ByteArray) (a1 : Int) (t : ByteArray) (w : World) (hr0 : Kd.C Kd.string w A0 l0.length l0) (hc0 : l0.length ≤ c0) (h : lex_record_write.f k l0 a1 = some t) (hb : t.size + 2 ≤ 9223372036854775807) :
    Calls Try.prog 38 #[.slice A0 l0.length c0, .int .u8 a1, .bool true] w fun e w' => e = .returned (.string (t ++ (⟨#[13, 10]⟩ : ByteArray))) ∧ Below w.heap.size w w' := by
  have H := Lib.hid h
  have hb2 : (9223372036854775807 < t.size + 2) = False := eq_false (by omega)
  clear h
  go_enter Try.func38, Try.ntmps38
  go_wp2_with fail
  refine (lex_record_write.calls k A0 c0 l0 a1 t _ hr0 hc0 H.out).mono ?_
  rintro e w' ⟨rfl, hbel⟩
  go_wp2
  go_ret
  exact ⟨rfl, hbel⟩
set_option maxHeartbeats 1000000 in
set_option maxRecDepth 100000 in
theorem write_lf (k : Nat) (A0 : Option Addr) (c0 : Nat) (l0 : List ByteArray) (a1 : Int) (t : ByteArray) (w : World) (hr0 : Kd.C Kd.string w A0 l0.length l0) (hc0 : l0.length ≤ c0) (h : lex_record_write.f k l0 a1 = some t) (hb : t.size + 1 ≤ 9223372036854775807) :
    Calls Try.prog 38 #[.slice A0 l0.length c0, .int .u8 a1, .bool false] w fun e w' => e = .returned (.string (t ++ (⟨#[10]⟩ : ByteArray))) ∧ Below w.heap.size w w' := by
  have H := Lib.hid h
  have hb2 : (9223372036854775807 < t.size + 1) = False := eq_false (by omega)
  have hb3 : (9223372036854775806 < t.size) = False := eq_false (by omega)
  clear h
  go_enter Try.func38, Try.ntmps38
  go_wp2_with fail
  refine (lex_record_write.calls k A0 c0 l0 a1 t _ hr0 hc0 H.out).mono ?_
  rintro e w' ⟨rfl, hbel⟩
  go_wp2
  go_ret
  exact ⟨rfl, hbel⟩
theorem lex_Write.calls (k : Nat) (A0 : Option Addr) (c0 : Nat) (l0 : List ByteArray) (a1 : Int) (a2 : Bool) (r : ByteArray) (w : World) (hr0 : Kd.C Kd.string w A0 l0.length l0) (hc0 : l0.length ≤ c0) (h : lex_Write.f k l0 a1 a2 = some r) :
    Calls Try.prog 38 #[.slice A0 l0.length c0, .int .u8 a1, .bool a2] w fun e w' => e = .returned (.string r) ∧ Below w.heap.size w w' := by
  unfold lex_Write.f at h
  obtain ⟨t, ht, h⟩ := Option.bind_eq_some_iff.1 h
  cases a2 with
  | true =>
    rw [if_pos rfl] at h
    split at h
    · rename_i hb
      obtain rfl := Option.some.inj h
      exact write_crlf k A0 c0 l0 a1 t w hr0 hc0 ht hb
    · cases h
  | false =>
    rw [if_neg (by decide)] at h
    split at h
    · rename_i hb
      obtain rfl := Option.some.inj h
      exact write_lf k A0 c0 l0 a1 t w hr0 hc0 ht hb
    · cases h
end Go.Proofs.Ytggodagdfldndaa.Q.L

/-! csv.Same: slices.EqualFunc at rows of strings with slices.Equal, walked. -/
namespace Go.Proofs.Ytggodagdfldndaa.Q.L
open Go.RowKit Go.Shelf Go.Proofs.YtggodagdfldndaaW.PrintWords Go.Proofs.YtggodagdfldndaaW.PrintLast Go.Proofs.YtggodagdfldndaaW.PrintMore
/-- A list of strings that is read begins at a plain address. -/
theorem plain_of_C {w : World} {A : Option Addr} {l : List ByteArray} (h : Kd.C Kd.string w A l.length l) (h0 : l ≠ []) :
    ∃ b off, A = some ⟨b, off, none⟩ ∧ ∀ j, j < l.length → w.cell? ⟨b, off + j, none⟩ = some (.string (l.getD j ByteArray.empty)) := by
  have hlen : 0 < l.length := List.length_pos_iff.2 h0
  obtain ⟨ad, rfl, hcell⟩ := readsStr_cell h h0
  obtain ⟨b, off, sp⟩ := ad
  have hc := hcell 0 l[0] (by simp)
  have hh : ∃ o, w.heap[b]? = some o := by
    cases hh : w.heap[b]? with
    | none => simp [World.cell?, Addr.add, hh] at hc
    | some o => exact ⟨o, rfl⟩
  have hsp : sp = none := by
    cases sp with
    | none => rfl
    | some q =>
      exfalso
      obtain ⟨o, ho⟩ := hh
      cases o <;> simp [World.cell?, Addr.add, ho] at hc
  subst hsp
  refine ⟨b, off, rfl, fun j hj => ?_⟩
  have := hcell j l[j] (by simp [hj])
  unfold Addr.add at this
  rw [show l.getD j ByteArray.empty = l[j] by simp [hj]]
  split at this
  · rename_i e; subst e; exact this
  · exact this
theorem slices_Equal.calls (A1 : Option Addr) (c1 : Nat) (xs : List ByteArray) (A2 : Option Addr) (c2 : Nat) (ys : List ByteArray) (w : World) (h1 : Kd.C Kd.string w A1 xs.length xs) (h2 : Kd.C Kd.string w A2 ys.length ys) :
    Calls Try.prog 70 #[.slice A1 xs.length c1, .slice A2 ys.length c2] w fun e w' => e = .returned (.bool (decide (xs = ys))) ∧ Drawn0 w w' := by
  by_cases hl : xs.length = ys.length
  · by_cases h0 : xs = []
    · subst h0
      have : ys = [] := List.length_eq_zero_iff.1 hl.symm
      subst this
      refine (Try.slices_Equal_string_empty A1 A2 c1 0 c2 w (by decide)).mono ?_
      rintro e w' ⟨rfl, rfl⟩
      exact ⟨rfl, Drawn0.refl _⟩
    · have h0' : ys ≠ [] := fun e => h0 (List.length_eq_zero_iff.1 (by rw [hl, e]; rfl))
      obtain ⟨b1, o1, rfl, hc1⟩ := plain_of_C h1 h0
      obtain ⟨b2, o2, rfl, hc2⟩ := plain_of_C h2 h0'
      refine (Try.slices_Equal_string b1 o1 xs.length c1 b2 o2 ys.length c2 xs ys w (Nat.le_refl _) (Nat.le_refl _) h1.2.1 h2.2.1 hc1 hc2).mono ?_
      rintro e w' ⟨rfl, ⟨q, rfl⟩⟩
      rw [List.take_length, List.take_length]
      exact ⟨rfl, ⟨q, rfl⟩⟩
  · refine (Try.slices_Equal_string_lens A1 A2 xs.length c1 ys.length c2 w hl).mono ?_
    rintro e w' ⟨rfl, rfl⟩
    have : ¬ xs = ys := fun e => hl (by rw [e])
    rw [decide_eq_false this]
    exact ⟨rfl, Drawn0.refl _⟩
/-- A row of a list of rows that is read. -/
theorem at_row {w : World} {A : Option Addr} {l : List (List ByteArray)} (h : Kd.C (Kd.slice 9 Kd.string) w A l.length l) (k : Nat) (hk : k < l.length) :
    ∃ ad B c, A = some ad ∧ w.cell? (ad.add k) = some (.slice B (l.getD k []).length c) ∧ (l.getD k []).length ≤ c ∧ Kd.C Kd.string w B (l.getD k []).length (l.getD k []) := by
  obtain ⟨ad, cs, hA, _, hK, hcell⟩ := Kd.C_get h [] (k : Int) (by omega) (by omega)
  obtain ⟨B, c, hcs, hlc, hC⟩ := hK
  subst hcs
  have := hcell 0 _ rfl
  rw [Int.toNat_natCast] at *
  exact ⟨ad, B, c, hA, by simpa [Kd.slice] using this, hlc, hC⟩
set_option maxHeartbeats 4000000 in
set_option maxRecDepth 100000 in
theorem equalFunc_walk (A0 : Option Addr) (c0 : Nat) (l0 : List (List ByteArray)) (A1 : Option Addr) (c1 : Nat) (l1 : List (List ByteArray)) (w : World) (hr0 : Kd.C (Kd.slice 9 Kd.string) w A0 l0.length l0) (hr1 : Kd.C (Kd.slice 9 Kd.string) w A1 l1.length l1) (hl : l0.length = l1.length) :
    Calls Try.prog 69 #[.slice A0 l0.length c0, .slice A1 l1.length c1, .func (.func 70) #[] #[]] w fun e w' => e = .returned (.bool (decide (l0 = l1))) ∧ Drawn0 w w' := by
  have HR0 := Lib.hid hr0
  have HR1 := Lib.hid hr1
  have hb := hr0.2.1
  have e0 : ((l0.length : Int) != (l1.length : Int)) = false := bne_eq_false_iff_eq.2 (by omega)
  have HL := Lib.hid hl
  clear hr0 hr1 hl
  go_enter Try.func69, Try.ntmps69
  go_wp2
  go_loopw [17] (fun i wr => ∃ k : Nat, k ≤ l0.length ∧ i = .int .i64 k ∧ Drawn0 w wr ∧ l0.take k = l1.take k) (fun i _ => l0.length - (intOf i).toNat)
  case atStart => exact ⟨0, Nat.zero_le _, rfl, Drawn0.refl _, rfl⟩
  case round =>
    obtain ⟨k, hk, rfl, ⟨q, rfl⟩, hE⟩ := hrel
    have HE := Lib.hid hE
    clear hE
    rcases Nat.lt_or_ge k l0.length with hlt | hge
    · obtain ⟨ad, B, cb, rfl, hcell, hlc, hC⟩ := at_row HR0.out k hlt
      obtain ⟨ad1, B1, cb1, rfl, hcell1, hlc1, hC1⟩ := at_row HR1.out k (by have := HL.out; omega)
      have p0 : (0 : Int) ≤ (k : Int) := by omega
      have q0 : (k : Int) < (l0.length : Int) := by omega
      have q1 : (k : Int) < (l1.length : Int) := by have := HL.out; omega
      obtain ⟨X, hX⟩ : ∃ X, X = l0.getD k [] := ⟨_, rfl⟩
      obtain ⟨Y, hY⟩ : ∃ Y, Y = l1.getD k [] := ⟨_, rfl⟩
      rw [← hX] at hcell hlc hC
      rw [← hY] at hcell1 hlc1 hC1
      have HX := Lib.hid hX
      have HY := Lib.hid hY
      clear hX hY
      by_cases hkk : X = Y
      · have Hd := Lib.hid (decide_eq_true hkk)
        have HK := Lib.hid hkk
        clear hkk
        go_wp2_with fail
        refine (slices_Equal.calls B cb _ B1 cb1 _ _ (by repeat (first | exact hC | (with_reducible refine Kd.C_drewN ?_ _) | (with_reducible refine Kd.C_drew ?_))) (by repeat (first | exact hC1 | (with_reducible refine Kd.C_drewN ?_ _) | (with_reducible refine Kd.C_drew ?_)))).mono ?_
        rintro e w' ⟨rfl, ⟨nd, rfl⟩⟩
        rw [Hd.out]
        go_wp2
        go_roundw
        case rel =>
          refine ⟨k + 1, by omega, by go_num, by repeat (first | exact Drawn0.refl _ | apply Drawn0.step), ?_⟩
          have h2 : k < l1.length := by have := HL.out; omega
          have := HK.out
          rw [HX.out, HY.out] at this
          rw [List.getD_eq_getElem?_getD, List.getD_eq_getElem?_getD, List.getElem?_eq_getElem hlt, List.getElem?_eq_getElem h2] at this
          rw [List.take_add_one, List.take_add_one, HE.out, List.getElem?_eq_getElem hlt, List.getElem?_eq_getElem h2]
          simp only [Option.getD_some] at this
          rw [this]
        case measure => simp [intOf]; omega
      · have Hd := Lib.hid (decide_eq_false hkk)
        have hne : ¬ l0 = l1 := fun e => hkk (by rw [HX.out, HY.out, e])
        have Hn := Lib.hid hne
        clear hkk hne
        go_wp2_with fail
        refine (slices_Equal.calls B cb _ B1 cb1 _ _ (by repeat (first | exact hC | (with_reducible refine Kd.C_drewN ?_ _) | (with_reducible refine Kd.C_drew ?_))) (by repeat (first | exact hC1 | (with_reducible refine Kd.C_drewN ?_ _) | (with_reducible refine Kd.C_drew ?_)))).mono ?_
        rintro e w' ⟨rfl, ⟨nd, rfl⟩⟩
        rw [Hd.out]
        go_wp2
        go_ret
        exact ⟨by rw [decide_eq_false Hn.out]; rfl, by repeat (first | exact Drawn0.refl _ | apply Drawn0.step)⟩
    · have q0 : ¬ (k : Int) < (l0.length : Int) := by omega
      have he : l0 = l1 := by
        have h := HE.out
        have h1 := HL.out
        rw [List.take_of_length_le (by omega), List.take_of_length_le (by omega)] at h
        exact h
      have Hn := Lib.hid he
      clear he
      go_wp2
      go_ret
      exact ⟨by rw [decide_eq_true Hn.out]; rfl, by repeat (first | exact Drawn0.refl _ | apply Drawn0.step)⟩
set_option maxHeartbeats 4000000 in
set_option maxRecDepth 100000 in
theorem equalFunc_lens (A0 : Option Addr) (c0 : Nat) (n0 : Nat) (A1 : Option Addr) (c1 : Nat) (n1 : Nat) (w : World) (hl : n0 ≠ n1) :
    Calls Try.prog 69 #[.slice A0 n0 c0, .slice A1 n1 c1, .func (.func 70) #[] #[]] w fun e w' => e = .returned (.bool false) ∧ Drawn0 w w' := by
  have e0 : ((n0 : Int) != (n1 : Int)) = true := bne_iff_ne.2 (by omega)
  clear hl
  go_enter Try.func69, Try.ntmps69
  go_wp2
  go_ret
  exact ⟨rfl, by repeat (first | exact Drawn0.refl _ | apply Drawn0.step)⟩
/-- csv.Same, as a plain function. -/
def csv_Same.f (l0 : List (List ByteArray)) (l1 : List (List ByteArray)) : Option Bool := some (decide (l0 = l1))
set_option maxHeartbeats 4000000 in
set_option maxRecDepth 100000 in
theorem csv_Same.calls (A0 : Option Addr) (c0 : Nat) (l0 : List (List ByteArray)) (A1 : Option Addr) (c1 : Nat) (l1 : List (List ByteArray)) (r : Bool) (w : World) (hr0 : Kd.C (Kd.slice 9 Kd.string) w A0 l0.length l0) (hc0 : l0.length ≤ c0) (hr1 : Kd.C (Kd.slice 9 Kd.string) w A1 l1.length l1) (hc1 : l1.length ≤ c1) (h : csv_Same.f l0 l1 = some r) :
    Calls Try.prog 46 #[.slice A0 l0.length c0, .slice A1 l1.length c1] w fun e w' => e = .returned (.bool r) ∧ Drawn0 w w' := by
  unfold csv_Same.f at h
  obtain rfl := Option.some.inj h
  have key : Calls Try.prog 69 #[.slice A0 l0.length c0, .slice A1 l1.length c1, .func (.func 70) #[] #[]] w fun e w' => e = .returned (.bool (decide (l0 = l1))) ∧ Drawn0 w w' := by
    by_cases hl : l0.length = l1.length
    · exact equalFunc_walk A0 c0 l0 A1 c1 l1 w hr0 hr1 hl
    · refine (equalFunc_lens A0 c0 _ A1 c1 _ w hl).mono ?_
      rintro e w' ⟨rfl, hd⟩
      rw [decide_eq_false (fun e => hl (by rw [e]))]
      exact ⟨rfl, hd⟩
  clear hr0 hc0 hr1 hc1 h
  go_enter Try.func46, Try.ntmps46
  go_wp2_with fail
  refine key.mono ?_
  rintro e w' ⟨rfl, ⟨nd, rfl⟩⟩
  go_wp2
  go_ret
  exact ⟨rfl, by repeat (first | exact Drawn0.refl _ | apply Drawn0.step)⟩
end Go.Proofs.Ytggodagdfldndaa.Q.L

namespace Go.Proofs.Ytggodagdfldndaa.Q.L
open Go.RowKit Go.Shelf Go.Proofs.YtggodagdfldndaaW.PrintWords Go.Proofs.YtggodagdfldndaaW.PrintLast Go.Proofs.YtggodagdfldndaaW.PrintMore
set_option maxHeartbeats 1000000 in
set_option maxRecDepth 100000 in
theorem len67 (x : ByteArray) (w : World) : Calls Try.prog 67 #[.string x] w fun e w' => e = .returned (.int .i64 x.size) ∧ w' = w := by
  go_enter Try.func67, Try.ntmps67
  go_wp2
  go_ret
  exact ⟨rfl, rfl⟩
def bigger (m : Int) (x : ByteArray) : Bool := decide (m < (x.size : Int))
set_option maxHeartbeats 1000000 in
set_option maxRecDepth 100000 in
theorem test83 (x : ByteArray) (m : Int) (r : Bool) (b1 b2 : Nat) (w : World) (h1 : w.cell? ⟨b1, 0, none⟩ = some (.func (.func 67) #[] #[])) (h2 : w.cell? ⟨b2, 0, none⟩ = some (.int .i64 m)) (hr : decide (m < (x.size : Int)) = r) :
    Calls Try.prog 83 #[.string x, .pointer (some ⟨b1, 0, none⟩), .pointer (some ⟨b2, 0, none⟩)] w fun e w' => e = .returned (.bool r) ∧ ∃ n, w' = w.drewN n := by
  go_enter Try.func83, Try.ntmps83
  go_wp2
  go_quiet (first | (refine Calls.quiet_of_same (len67 x _)))
  go_wp2
  go_ret
  exact ⟨rfl, _, rfl⟩
set_option maxHeartbeats 4000000 in
set_option maxRecDepth 100000 in
theorem index87 (A : Option Addr) (c : Nat) (l : List ByteArray) (m : Int) (b1 b2 : Nat) (w : World) (hr : Kd.C Kd.string w A l.length l) (h1 : w.cell? ⟨b1, 0, none⟩ = some (.func (.func 67) #[] #[])) (h2 : w.cell? ⟨b2, 0, none⟩ = some (.int .i64 m)) :
    Calls Try.prog 87 #[.slice A l.length c, .func (.func 83) #[] #[.pointer (some ⟨b1, 0, none⟩), .pointer (some ⟨b2, 0, none⟩)]] w fun e w' => ∃ r : Int, e = .returned (.int .i64 r) ∧ decide (0 ≤ r) = l.any (bigger m) ∧ Drawn0 w w' := by
  have HR := Lib.hid hr
  have hb := hr.2.1
  clear hr
  go_enter Try.func87, Try.ntmps87
  go_wp2
  go_loopw [8] (fun i wr => ∃ k : Nat, k ≤ l.length ∧ i = .int .i64 k ∧ Drawn0 w wr ∧ (l.take k).any (bigger m) = false) (fun i _ => l.length - (intOf i).toNat)
  case atStart => exact ⟨0, Nat.zero_le _, rfl, Drawn0.refl _, rfl⟩
  case round =>
    obtain ⟨k, hk, rfl, ⟨q, rfl⟩, hE⟩ := hrel
    have HE := Lib.hid hE
    clear hE
    rcases Nat.lt_or_ge k l.length with hlt | hge
    · have p0 : (0 : Int) ≤ (k : Int) := by omega
      have q0 : (k : Int) < (l.length : Int) := by omega
      obtain ⟨ad, rfl, hcell⟩ := Kd.at_string HR.out k p0 q0
      rw [Int.toNat_natCast] at hcell
      obtain ⟨X, hX⟩ : ∃ X, X = rdOf ByteArray.empty l (k : Int) := ⟨_, rfl⟩
      rw [← hX] at hcell
      have hX2 : X = l[k] := by rw [hX]; unfold rdOf; simp [hlt]
      clear hX
      have HX := Lib.hid hX2
      clear hX2
      have hs1 : (l.take (k + 1)).any (bigger m) = bigger m X := by
        rw [List.take_add_one, List.any_append, HE.out, List.getElem?_eq_getElem hlt, HX.out]; simp
      cases hd : bigger m X with
      | true =>
        have hany : l.any (bigger m) = true := by
          rw [← List.take_append_drop (k + 1) l, List.any_append, hs1, hd]; rfl
        have Ha := Lib.hid hany
        have Hd := Lib.hid (show decide (m < (X.size : Int)) = true from hd)
        clear hs1 hd hany
        go_wp2_with fail
        refine (test83 X m true b1 b2 (w.drewN q) h1 h2 Hd.out).mono ?_
        rintro e w' ⟨rfl, ⟨nd, rfl⟩⟩
        go_wp2
        go_ret
        exact ⟨k, rfl, by rw [Ha.out, decide_eq_true (by omega)], by repeat (first | exact Drawn0.refl _ | apply Drawn0.step)⟩
      | false =>
        have Hs := Lib.hid (hs1.trans hd)
        have Hd := Lib.hid (show decide (m < (X.size : Int)) = false from hd)
        clear hs1 hd
        go_wp2_with fail
        refine (test83 X m false b1 b2 (w.drewN q) h1 h2 Hd.out).mono ?_
        rintro e w' ⟨rfl, ⟨nd, rfl⟩⟩
        go_wp2
        go_roundw
        case rel => exact ⟨k + 1, by omega, by go_num, by repeat (first | exact Drawn0.refl _ | apply Drawn0.step), Hs.out⟩
        case measure => simp [intOf]; omega
    · have q0 : ¬ (k : Int) < (l.length : Int) := by omega
      have Ha := Lib.hid (show l.any (bigger m) = false by have := HE.out; rwa [List.take_of_length_le (by omega)] at this)
      go_wp2
      go_ret
      exact ⟨-1, rfl, by rw [Ha.out]; rfl, by repeat (first | exact Drawn0.refl _ | apply Drawn0.step)⟩
set_option maxHeartbeats 1000000 in
set_option maxRecDepth 100000 in
theorem contains82 (A : Option Addr) (c : Nat) (l : List ByteArray) (m : Int) (b1 b2 : Nat) (w : World) (hr : Kd.C Kd.string w A l.length l) (h1 : w.cell? ⟨b1, 0, none⟩ = some (.func (.func 67) #[] #[])) (h2 : w.cell? ⟨b2, 0, none⟩ = some (.int .i64 m)) :
    Calls Try.prog 82 #[.slice A l.length c, .func (.func 83) #[] #[.pointer (some ⟨b1, 0, none⟩), .pointer (some ⟨b2, 0, none⟩)]] w fun e w' => e = .returned (.bool (l.any (bigger m))) ∧ Drawn0 w w' := by
  have key := index87 A c l m b1 b2 w hr h1 h2
  clear hr h1 h2
  go_enter Try.func82, Try.ntmps82
  go_wp2_with fail
  refine key.mono ?_
  rintro e w' ⟨r, rfl, hd, ⟨nd, rfl⟩⟩
  obtain ⟨x, hgx⟩ : ∃ x, x = l.any (bigger m) := ⟨_, rfl⟩
  rw [← hgx] at hd
  have HG := Lib.hid hgx
  clear hgx
  go_wp2
  go_ret
  exact ⟨by rw [← HG.out]; rfl, by repeat (first | exact Drawn0.refl _ | apply Drawn0.step)⟩
set_option maxHeartbeats 2000000 in
set_option maxRecDepth 100000 in
theorem large_walk (A : Option Addr) (c : Nat) (l : List ByteArray) (m : Int) (w : World) (hr : Kd.C Kd.string w A l.length l) :
    Calls Try.prog 66 #[.slice A l.length c, .int .i64 m, .func (.func 67) #[] #[]] w fun e w' => e = .returned (.bool (l.any (bigger m))) ∧ Below w.heap.size w w' := by
  have HR := Lib.hid hr
  clear hr
  go_enter Try.func66, Try.ntmps66
  go_wp2_with fail
  refine (contains82 A c l m (w.heap.size + 1) w.heap.size _ (by repeat (first | exact HR.out | (with_reducible refine Kd.C_alloc ?_ _))) ?_ ?_).mono ?_
  · rw [Lib.cell_of_heap (by rw [show w.heap.size + 1 = (w.alloc (Obj.cells #[Value.int IntKind.i64 m] 3)).heap.size from by simp]; exact heap_alloc_new _ _)]; rfl
  · rw [Lib.cell_of_heap (by rw [Lib.alloc_old _ _ _ (by simp)]; exact heap_alloc_new _ _)]; rfl
  · rintro e w' ⟨rfl, ⟨nd, rfl⟩⟩
    go_wp2
    go_ret
    exact ⟨rfl, pw_below_drewN (((Below.refl _ w).alloc (Nat.le_refl _) _).alloc (by simp) _) nd⟩
end Go.Proofs.Ytggodagdfldndaa.Q.L
