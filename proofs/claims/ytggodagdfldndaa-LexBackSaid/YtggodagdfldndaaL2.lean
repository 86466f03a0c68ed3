/- Walks of Go functions of this seat against plain Lean functions, written by a program of this session (the kit's print, with hand-proved contracts for what it does not take). Lean checks them. -/
import Derived.Test.YtggodagdfldndaaL0
import Derived.Test.YtggodagdfldndaaL1
namespace Go.Proofs.Ytggodagdfldndaa.Q.L
open Go.RowKit Go.Proofs.YtggodagdfldndaaW.PrintWords Go.Proofs.YtggodagdfldndaaW.PrintLast Go.Proofs.YtggodagdfldndaaW.PrintMore
attribute [local go_sem] max2_int min2_int max_two min_two max_three min_three max_four min_four   -- for this text's walks alone
set_option linter.unusedVariables false
set_option linter.unusedSimpArgs false

/-! ### tartanref02_Field: function 35 -/
mutual
def tartanref02_Field.j0 : Nat → ByteArray → Int → Int → Bool → Option (ByteArray × Int × Int × Int)
  | 0, _, _, _, _ => none
  | k + 1, x0, x1, x2, x25 => if x25 = true then (some ((⟨#[]⟩ : ByteArray), x1, 0, 11)) else ((tartanref01_Good.f x2).bind fun t120 => (if t120 = true then (if x1 < (x0.size : Int) then (if 0 ≤ x1 then (tartanref02_Field.j1 k x0 x1 x2 ((bt x0 x1) == 34)) else (none)) else (tartanref02_Field.j1 k x0 x1 x2 false)) else (some ((⟨#[]⟩ : ByteArray), x1, 0, 2))))
def tartanref02_Field.j1 : Nat → ByteArray → Int → Int → Bool → Option (ByteArray × Int × Int × Int)
  | 0, _, _, _, _ => none
  | k + 1, x0, x1, x2, x40 => if x40 = true then (if 0 ≤ x1 then (if x1 ≤ (x0.size : Int) then ((tartanref01_Get.f k (x0.extract (x1 : Int).toNat x0.size)).bind fun bt121 => (if bt121.2.2 = 0 then ((tartanref02_ends.f k x0 (wrap64 (x1 + bt121.2.1)) x2).bind fun bt124 => (if bt124.1 = 0 then (some ((⟨#[]⟩ : ByteArray), wrap64 (x1 + bt121.2.1), 0, 5)) else (some (bt121.1, bt124.2, bt124.1, 0)))) else (some ((⟨#[]⟩ : ByteArray), x1, 0, bt121.2.2)))) else (none)) else (none)) else (tartanref02_Field.l0 k x0 x1 x2 x1)
def tartanref02_Field.l0 : Nat → ByteArray → Int → Int → Int → Option (ByteArray × Int × Int × Int)
  | 0, _, _, _, _ => none
  | k + 1, x0, x1, x2, x15 => if x15 ≤ (x0.size : Int) then ((tartanref02_ends.f k x0 x15 x2).bind fun bt126 => (if bt126.1 > 0 then (if 0 ≤ x1 then (if x1 ≤ x15 then (some (x0.extract (x1 : Int).toNat (x15 : Int).toNat, bt126.2, bt126.1, 0)) else (none)) else (none)) else (if 0 ≤ x15 then (if x15 < (x0.size : Int) then (if (bt x0 x15) = 34 then (some ((⟨#[]⟩ : ByteArray), x15, 0, 3)) else (if (bt x0 x15) = 13 then (some ((⟨#[]⟩ : ByteArray), x15, 0, 6)) else (tartanref02_Field.l0 k x0 x1 x2 (wrap64 (x15 + 1))))) else (none)) else (none)))) else (some ((⟨#[]⟩ : ByteArray), x1, 0, 11))
end
def tartanref02_Field.f (k : Nat) (a0 : ByteArray) (a1 : Int) (a2 : Int) : Option (ByteArray × Int × Int × Int) := if a1 < 0 then (tartanref02_Field.j0 k a0 a1 a2 true) else (tartanref02_Field.j0 k a0 a1 a2 (decide (a1 > (a0.size : Int))))
theorem tartanref02_Field.mono_l : ∀ k, (∀ y0 y1 y2 y3, LeO (tartanref02_Field.j0 k y0 y1 y2 y3) (tartanref02_Field.j0 (k + 1) y0 y1 y2 y3)) ∧ (∀ y0 y1 y2 y3, LeO (tartanref02_Field.j1 k y0 y1 y2 y3) (tartanref02_Field.j1 (k + 1) y0 y1 y2 y3)) ∧ (∀ y0 y1 y2 y3, LeO (tartanref02_Field.l0 k y0 y1 y2 y3) (tartanref02_Field.l0 (k + 1) y0 y1 y2 y3))
  | 0 => ⟨fun _ _ _ _ r h => by simp [tartanref02_Field.j0] at h, fun _ _ _ _ r h => by simp [tartanref02_Field.j1] at h, fun _ _ _ _ r h => by simp [tartanref02_Field.l0] at h⟩
  | k + 1 => by
    obtain ⟨ih0, ih1, ih2⟩ := tartanref02_Field.mono_l k
    refine ⟨?_, ?_, ?_⟩
    · intro y0 y1 y2 y3
      unfold tartanref02_Field.j0
      repeat' first
      | (with_reducible exact ih0 _ _ _ _)
      | (with_reducible exact ih1 _ _ _ _)
      | (with_reducible exact ih2 _ _ _ _)
      | (with_reducible exact tartanref01_Get.mono _ _)
      | (with_reducible exact tartanref02_ends.mono _ _ _ _)
      | (with_reducible exact LeO.refl _)
      | (with_reducible exact LeO.none _)
      | (with_reducible refine LeO.ite ?_ ?_)
      | (with_reducible refine LeO.bind ?_ (fun _ => ?_))
      | exact ih0 _ _ _ _
      | exact ih1 _ _ _ _
      | exact ih2 _ _ _ _
      | exact tartanref01_Get.mono _ _
      | exact tartanref02_ends.mono _ _ _ _
      | exact LeO.none _
      | refine LeO.ite ?_ ?_
      | refine LeO.bind ?_ (fun _ => ?_)
    · intro y0 y1 y2 y3
      unfold tartanref02_Field.j1
      repeat' first
      | (with_reducible exact ih0 _ _ _ _)
      | (with_reducible exact ih1 _ _ _ _)
      | (with_reducible exact ih2 _ _ _ _)
      | (with_reducible exact tartanref01_Get.mono _ _)
      | (with_reducible exact tartanref02_ends.mono _ _ _ _)
      | (with_reducible exact LeO.refl _)
      | (with_reducible exact LeO.none _)
      | (with_reducible refine LeO.ite ?_ ?_)
      | (with_reducible refine LeO.bind ?_ (fun _ => ?_))
      | exact ih0 _ _ _ _
      | exact ih1 _ _ _ _
      | exact ih2 _ _ _ _
      | exact tartanref01_Get.mono _ _
      | exact tartanref02_ends.mono _ _ _ _
      | exact LeO.none _
      | refine LeO.ite ?_ ?_
      | refine LeO.bind ?_ (fun _ => ?_)
    · intro y0 y1 y2 y3
      unfold tartanref02_Field.l0
      repeat' first
      | (with_reducible exact ih0 _ _ _ _)
      | (with_reducible exact ih1 _ _ _ _)
      | (with_reducible exact ih2 _ _ _ _)
      | (with_reducible exact tartanref01_Get.mono _ _)
      | (with_reducible exact tartanref02_ends.mono _ _ _ _)
      | (with_reducible exact LeO.refl _)
      | (with_reducible exact LeO.none _)
      | (with_reducible refine LeO.ite ?_ ?_)
      | (with_reducible refine LeO.bind ?_ (fun _ => ?_))
      | exact ih0 _ _ _ _
      | exact ih1 _ _ _ _
      | exact ih2 _ _ _ _
      | exact tartanref01_Get.mono _ _
      | exact tartanref02_ends.mono _ _ _ _
      | exact LeO.none _
      | refine LeO.ite ?_ ?_
      | refine LeO.bind ?_ (fun _ => ?_)
theorem tartanref02_Field.mono : ∀ a0 a1 a2 k, LeO (tartanref02_Field.f k a0 a1 a2) (tartanref02_Field.f (k + 1) a0 a1 a2) := by
  intro a0 a1 a2 k
  obtain ⟨ih0, ih1, ih2⟩ := tartanref02_Field.mono_l k
  unfold tartanref02_Field.f
  repeat' first
      | (with_reducible exact ih0 _ _ _ _)
      | (with_reducible exact ih1 _ _ _ _)
      | (with_reducible exact ih2 _ _ _ _)
      | (with_reducible exact tartanref01_Get.mono _ _)
      | (with_reducible exact tartanref02_ends.mono _ _ _ _)
      | (with_reducible exact LeO.refl _)
      | (with_reducible exact LeO.none _)
      | (with_reducible refine LeO.ite ?_ ?_)
      | (with_reducible refine LeO.bind ?_ (fun _ => ?_))
      | exact ih0 _ _ _ _
      | exact ih1 _ _ _ _
      | exact ih2 _ _ _ _
      | exact tartanref01_Get.mono _ _
      | exact tartanref02_ends.mono _ _ _ _
      | exact LeO.none _
      | refine LeO.ite ?_ ?_
      | refine LeO.bind ?_ (fun _ => ?_)
set_option maxHeartbeats 8000000 in
set_option maxRecDepth 100000 in
theorem tartanref02_Field.calls (k : Nat) (a0 : ByteArray) (a1 : Int) (a2 : Int) (r1 : ByteArray) (r2 : Int) (r3 : Int) (r4 : Int) (w : World) (h : tartanref02_Field.f k a0 a1 a2 = some (r1, r2, r3, r4)) :
    Calls Try.prog 35 #[.string a0, .int .i64 a1, .int .u8 a2] w fun e w' => e = .returned (.tuple #[.string r1, .int .i64 r2, .int .i64 r3, .int .i64 r4]) ∧ Drawn0 w w' := by
  have H : (if a1 < 0 then (tartanref02_Field.j0 k a0 a1 a2 true) else (tartanref02_Field.j0 k a0 a1 a2 (decide (a1 > (a0.size : Int))))) = some (r1, r2, r3, r4) := h
  clear h
  have HC4 := Aside0.mk H
  clear H
  go_enter Try.func35, Try.ntmps35
  go_upto_region 1 with (fail)
  go_cut [25] (fun v25 wc => ∃ (kq : Nat) (x25_3 : Bool), v25 = .bool x25_3 ∧ Aside0 (tartanref02_Field.j0 kq a0 a1 a2 x25_3 = some (r1, r2, r3, r4)) ∧ Aside0 (kq ≤ k) ∧ Drawn0 w wc)
  case first =>
    have H := HC4.out
    clear HC4
    by_cases c5 : a1 < 0
    · rw [if_pos c5] at H
      have c5b0 : decide (a1 < 0) = true := decide_eq_true c5
      clear c5
      (first | rw [c5b0] | (simp only [i64_w, i32_w]; rw [c5b0]) | skip)
      have H' := Aside0.mk H
      clear H
      go_wp2
      go_meet
      case rel => exact ⟨_, (true), (by first | rfl | (simp; done) | (simp [*]; done)), H', ⟨by first | omega | exact Nat.le_refl _⟩, by repeat (first | exact Drawn0.refl _ | apply Drawn0.step)⟩
    · rw [if_neg c5] at H
      have c5b0 : decide (a1 < 0) = false := decide_eq_false c5
      clear c5
      (first | rw [c5b0] | (simp only [i64_w, i32_w]; rw [c5b0]) | skip)
      have H' := Aside0.mk H
      clear H
      go_wp2
      go_meet
      case rel => exact ⟨_, (decide (a1 > (a0.size : Int))), (by first | rfl | (simp; done) | (simp [*]; done)), H', ⟨by first | omega | exact Nat.le_refl _⟩, by repeat (first | exact Drawn0.refl _ | apply Drawn0.step)⟩
  case rest =>
    clear HC4
    try clear p2
    try clear c3
    try clear c5
    try clear c5b0
    obtain ⟨kq, x25_3, rfl, HA, HJ3, ⟨mc3, rfl⟩⟩ := hcut
    cases kq with
    | zero => exact absurd HA.out (by simp [tartanref02_Field.j0])
    | succ kj3 =>
      have H := HA.out
      clear HA
      simp only [tartanref02_Field.j0] at H
      by_cases c6 : x25_3 = true
      · subst c6
        have H1 : (some ((⟨#[]⟩ : ByteArray), a1, 0, 11)) = some (r1, r2, r3, r4) := by rw [if_pos rfl] at H; exact H
        clear H
        have H := H1
        clear H1
        simp only [Option.some.injEq, Prod.mk.injEq] at H
        obtain ⟨rfl, rfl, rfl, rfl⟩ := H
        go_wp2
        refine bodyPost_ret (results_list (rs := [.tmp 6, .tmp 7, .tmp 8, .tmp 9]) rfl (by simp) (.tmp (.tmp (.tmp (.tmp .nil))))) rfl ?_
        exact ⟨by first | rfl | (simp; done) | (simp [*]; done), by repeat (first | exact Drawn0.refl _ | apply Drawn0.step)⟩
      · replace c6 := Bool.eq_false_iff.mpr c6
        subst c6
        have H1 : ((tartanref01_Good.f a2).bind fun t120 => (if t120 = true then (if a1 < (a0.size : Int) then (if 0 ≤ a1 then (tartanref02_Field.j1 kj3 a0 a1 a2 ((bt a0 a1) == 34)) else (none)) else (tartanref02_Field.j1 kj3 a0 a1 a2 false)) else (some ((⟨#[]⟩ : ByteArray), a1, 0, 2)))) = some (r1, r2, r3, r4) := by rw [if_neg (show ¬ (false = true) by decide)] at H; exact H
        clear H
        have H := H1
        clear H1
        replace H := Option.bind_eq_some_iff.mp H
        obtain ⟨t120, A70, H⟩ := H
        replace H : (if t120 = true then (if a1 < (a0.size : Int) then (if 0 ≤ a1 then (tartanref02_Field.j1 kj3 a0 a1 a2 ((bt a0 a1) == 34)) else (none)) else (tartanref02_Field.j1 kj3 a0 a1 a2 false)) else (some ((⟨#[]⟩ : ByteArray), a1, 0, 2))) = some (r1, r2, r3, r4) := H
        have A7 := Aside0.mk A70
        clear A70
        by_cases c8 : t120 = true
        · subst c8
          have H1 : (if a1 < (a0.size : Int) then (if 0 ≤ a1 then (tartanref02_Field.j1 kj3 a0 a1 a2 ((bt a0 a1) == 34)) else (none)) else (tartanref02_Field.j1 kj3 a0 a1 a2 false)) = some (r1, r2, r3, r4) := by rw [if_pos rfl] at H; exact H
          clear H
          have H := H1
          clear H1
          have HC9 := Aside0.mk H
          clear H
          go_upto_region 5 with (first | ((with_reducible refine gate_callee (f := 28) rfl ?_); refine goesL_ (some 28) rfl rfl Try.func28 (by kernel_rfl) rfl #[.int .u8 a2] rfl (by (try simp only [List.map_toArray, List.map_cons, List.map_nil]); first | done | rfl | (simp only [List.length_drop, List.length_take]; rfl)) ?_; (with_reducible refine (tartanref01_Good.calls a2 true _ A7.out).mono ?_); rintro e w' ⟨rfl, ⟨nd, rfl⟩⟩; refine ⟨_, rfl, ?_⟩))
          (try simp only [Act.put, List.setIfInBounds_toArray, List.set_cons_zero, List.set_cons_succ])
          go_cut [40] (fun v40 wc => ∃ (kq : Nat) (x40_8 : Bool), v40 = .bool x40_8 ∧ Aside0 (tartanref02_Field.j1 kq a0 a1 a2 x40_8 = some (r1, r2, r3, r4)) ∧ Aside0 (kq ≤ kj3) ∧ Drawn0 w wc)
          case first =>
            have H := HC9.out
            clear HC9
            by_cases c10 : a1 < (a0.size : Int)
            · rw [if_pos c10] at H
              have c10b0 : decide (a1 < (a0.size : Int)) = true := decide_eq_true c10
              clear c10
              (first | rw [c10b0] | (simp only [i64_w, i32_w]; rw [c10b0]) | skip)
              by_cases c11 : 0 ≤ a1
              · rw [if_pos c11] at H
                have c11b0 : decide (0 ≤ a1) = true := decide_eq_true c11
                clear c11
                have H' := Aside0.mk H
                clear H
                have p12 : 0 ≤ (a1 : Int) := of_decide_eq_true (by first | (with_reducible assumption) | assumption)
                have q12 : a1 < (a0.size : Int) := of_decide_eq_true (by first | (with_reducible assumption) | assumption)
                have hx12 := bt_at a0 a1
                replace p12 := eq_true p12
                replace q12 := eq_true q12
                go_wp2
                go_meet
                case rel => exact ⟨_, (((bt a0 a1) == 34)), (by first | rfl | (simp; done) | (simp [*]; done)), H', ⟨by have := HJ3.out; first | omega | exact Nat.le_refl _⟩, by repeat (first | exact Drawn0.refl _ | apply Drawn0.step)⟩
              · rw [if_neg c11] at H
                exact absurd H (by simp)
            · rw [if_neg c10] at H
              have c10b0 : decide (a1 < (a0.size : Int)) = false := decide_eq_false c10
              clear c10
              (first | rw [c10b0] | (simp only [i64_w, i32_w]; rw [c10b0]) | skip)
              have H' := Aside0.mk H
              clear H
              go_wp2
              go_meet
              case rel => exact ⟨_, (false), (by first | rfl | (simp; done) | (simp [*]; done)), H', ⟨by have := HJ3.out; first | omega | exact Nat.le_refl _⟩, by repeat (first | exact Drawn0.refl _ | apply Drawn0.step)⟩
          case rest =>
            clear HC9
            try clear c1
            try clear p1
            try clear q1
            try clear hx1
            try clear c2
            try clear p2
            try clear c3
            try clear c5
            try clear c5b0
            try clear c6
            try clear c8
            try clear c10
            try clear c10b0
            try clear c11
            try clear c11b0
            try clear p12
            try clear q12
            try clear hx12
            try clear p12
            try clear p2
            try clear q12
            obtain ⟨kq, x40_8, rfl, HA, HJ8, ⟨mc8, rfl⟩⟩ := hcut
            cases kq with
            | zero => exact absurd HA.out (by simp [tartanref02_Field.j1])
            | succ kj8 =>
              have H := HA.out
              clear HA
              simp only [tartanref02_Field.j1] at H
              by_cases c13 : x40_8 = true
              · subst c13
                have H1 : (if 0 ≤ a1 then (if a1 ≤ (a0.size : Int) then ((tartanref01_Get.f kj8 (a0.extract (a1 : Int).toNat a0.size)).bind fun bt121 => (if bt121.2.2 = 0 then ((tartanref02_ends.f kj8 a0 (wrap64 (a1 + bt121.2.1)) a2).bind fun bt124 => (if bt124.1 = 0 then (some ((⟨#[]⟩ : ByteArray), wrap64 (a1 + bt121.2.1), 0, 5)) else (some (bt121.1, bt124.2, bt124.1, 0)))) else (some ((⟨#[]⟩ : ByteArray), a1, 0, bt121.2.2)))) else (none)) else (none)) = some (r1, r2, r3, r4) := by rw [if_pos rfl] at H; exact H
                clear H
                have H := H1
                clear H1
                by_cases c14 : 0 ≤ a1
                · rw [if_pos c14] at H
                  have c14b0 := eq_true c14
                  have c14b1 : decide (0 ≤ a1) = true := decide_eq_true c14
                  clear c14
                  by_cases c15 : a1 ≤ (a0.size : Int)
                  · rw [if_pos c15] at H
                    have c15b0 := eq_true c15
                    have c15b1 : decide (a1 ≤ (a0.size : Int)) = true := decide_eq_true c15
                    clear c15
                    replace H := Option.bind_eq_some_iff.mp H
                    obtain ⟨⟨t121, t122, t123⟩, A160, H⟩ := H
                    replace H : (if t123 = 0 then ((tartanref02_ends.f kj8 a0 (wrap64 (a1 + t122)) a2).bind fun bt124 => (if bt124.1 = 0 then (some ((⟨#[]⟩ : ByteArray), wrap64 (a1 + t122), 0, 5)) else (some (t121, bt124.2, bt124.1, 0)))) else (some ((⟨#[]⟩ : ByteArray), a1, 0, t123))) = some (r1, r2, r3, r4) := H
                    have A16 := Aside0.mk A160
                    clear A160
                    by_cases c17 : t123 = 0
                    · rw [if_pos c17] at H
                      have c17b0 : (t123 == 0) = true := beq_iff_eq.mpr c17
                      have c17b1 : (t123 != 0) = false := bne_eq_false_iff_eq.mpr c17
                      clear c17
                      replace H := Option.bind_eq_some_iff.mp H
                      obtain ⟨⟨t124, t125⟩, A180, H⟩ := H
                      replace H : (if t124 = 0 then (some ((⟨#[]⟩ : ByteArray), wrap64 (a1 + t122), 0, 5)) else (some (t121, t125, t124, 0))) = some (r1, r2, r3, r4) := H
                      have A18 := Aside0.mk A180
                      clear A180
                      by_cases c19 : t124 = 0
                      · rw [if_pos c19] at H
                        have c19b0 : (t124 == 0) = true := beq_iff_eq.mpr c19
                        have c19b1 : (t124 != 0) = false := bne_eq_false_iff_eq.mpr c19
                        clear c19
                        simp only [Option.some.injEq, Prod.mk.injEq] at H
                        obtain ⟨rfl, rfl, rfl, rfl⟩ := H
                        go_wp2_with (first | ((with_reducible refine gate_callee (f := 32) rfl ?_); refine goesL_ (some 45) rfl rfl Try.func32 (by kernel_rfl) rfl #[.string (a0.extract (a1 : Int).toNat a0.size)] rfl (by (try simp only [List.map_toArray, List.map_cons, List.map_nil]); first | done | rfl | (simp only [List.length_drop, List.length_take]; rfl)) ?_; (with_reducible refine (tartanref01_Get.calls kj8 (a0.extract (a1 : Int).toNat a0.size) t121 t122 t123 _ A16.out).mono ?_); rintro e w' ⟨rfl, ⟨nd, rfl⟩⟩; refine ⟨_, rfl, ?_⟩) | ((with_reducible refine gate_callee (f := 60) rfl ?_); refine goesL_ (some 59) rfl rfl Try.func60 (by kernel_rfl) rfl #[.string a0, .int .i64 (wrap64 (a1 + t122)), .int .u8 a2] rfl (by (try simp only [List.map_toArray, List.map_cons, List.map_nil]); first | done | rfl | (simp only [List.length_drop, List.length_take]; rfl)) ?_; (with_reducible refine (tartanref02_ends.calls kj8 a0 (wrap64 (a1 + t122)) a2 t124 t125 _ A18.out).mono ?_); rintro e w' ⟨rfl, ⟨nd, rfl⟩⟩; refine ⟨_, rfl, ?_⟩))
                        refine bodyPost_ret (results_list (rs := [.tmp 6, .tmp 7, .tmp 8, .tmp 9]) rfl (by simp) (.tmp (.tmp (.tmp (.tmp .nil))))) rfl ?_
                        exact ⟨by first | rfl | (simp; done) | (simp [*]; done), by repeat (first | exact Drawn0.refl _ | apply Drawn0.step)⟩
                      · rw [if_neg c19] at H
                        have c19b0 : (t124 == 0) = false := beq_eq_false_iff_ne.mpr c19
                        have c19b1 : (t124 != 0) = true := bne_iff_ne.mpr c19
                        simp only [Option.some.injEq, Prod.mk.injEq] at H
                        obtain ⟨rfl, rfl, rfl, rfl⟩ := H
                        go_wp2_with (first | ((with_reducible refine gate_callee (f := 32) rfl ?_); refine goesL_ (some 45) rfl rfl Try.func32 (by kernel_rfl) rfl #[.string (a0.extract (a1 : Int).toNat a0.size)] rfl (by (try simp only [List.map_toArray, List.map_cons, List.map_nil]); first | done | rfl | (simp only [List.length_drop, List.length_take]; rfl)) ?_; (with_reducible refine (tartanref01_Get.calls kj8 (a0.extract (a1 : Int).toNat a0.size) t121 t122 t123 _ A16.out).mono ?_); rintro e w' ⟨rfl, ⟨nd, rfl⟩⟩; refine ⟨_, rfl, ?_⟩) | ((with_reducible refine gate_callee (f := 60) rfl ?_); refine goesL_ (some 59) rfl rfl Try.func60 (by kernel_rfl) rfl #[.string a0, .int .i64 (wrap64 (a1 + t122)), .int .u8 a2] rfl (by (try simp only [List.map_toArray, List.map_cons, List.map_nil]); first | done | rfl | (simp only [List.length_drop, List.length_take]; rfl)) ?_; (with_reducible refine (tartanref02_ends.calls kj8 a0 (wrap64 (a1 + t122)) a2 t124 t125 _ A18.out).mono ?_); rintro e w' ⟨rfl, ⟨nd, rfl⟩⟩; refine ⟨_, rfl, ?_⟩))
                        refine bodyPost_ret (results_list (rs := [.tmp 6, .tmp 7, .tmp 8, .tmp 9]) rfl (by simp) (.tmp (.tmp (.tmp (.tmp .nil))))) rfl ?_
                        exact ⟨by first | rfl | (simp; done) | (simp [*]; done), by repeat (first | exact Drawn0.refl _ | apply Drawn0.step)⟩
                    · rw [if_neg c17] at H
                      have c17b0 : (t123 == 0) = false := beq_eq_false_iff_ne.mpr c17
                      have c17b1 : (t123 != 0) = true := bne_iff_ne.mpr c17
                      simp only [Option.some.injEq, Prod.mk.injEq] at H
                      obtain ⟨rfl, rfl, rfl, rfl⟩ := H
                      go_wp2_with (first | ((with_reducible refine gate_callee (f := 32) rfl ?_); refine goesL_ (some 45) rfl rfl Try.func32 (by kernel_rfl) rfl #[.string (a0.extract (a1 : Int).toNat a0.size)] rfl (by (try simp only [List.map_toArray, List.map_cons, List.map_nil]); first | done | rfl | (simp only [List.length_drop, List.length_take]; rfl)) ?_; (with_reducible refine (tartanref01_Get.calls kj8 (a0.extract (a1 : Int).toNat a0.size) t121 t122 t123 _ A16.out).mono ?_); rintro e w' ⟨rfl, ⟨nd, rfl⟩⟩; refine ⟨_, rfl, ?_⟩))
                      refine bodyPost_ret (results_list (rs := [.tmp 6, .tmp 7, .tmp 8, .tmp 9]) rfl (by simp) (.tmp (.tmp (.tmp (.tmp .nil))))) rfl ?_
                      exact ⟨by first | rfl | (simp; done) | (simp [*]; done), by repeat (first | exact Drawn0.refl _ | apply Drawn0.step)⟩
                  · rw [if_neg c15] at H
                    exact absurd H (by simp)
                · rw [if_neg c14] at H
                  exact absurd H (by simp)
              · replace c13 := Bool.eq_false_iff.mpr c13
                subst c13
                have H1 : (tartanref02_Field.l0 kj8 a0 a1 a2 a1) = some (r1, r2, r3, r4) := by rw [if_neg (show ¬ (false = true) by decide)] at H; exact H
                clear H
                have H := H1
                clear H1
                have H' := Aside0.mk H
                clear H
                go_wp2
                go_loopg [15] kj8 (fun kq v15 w' => ∃ (x15_3 : Int), v15 = .int .i64 x15_3 ∧ Aside0 (tartanref02_Field.l0 kq a0 a1 a2 x15_3 = some (r1, r2, r3, r4)) ∧ Aside0 (kq ≤ kj8) ∧ Drawn0 w w')
                case atStart => exact ⟨(a1), (by first | rfl | (simp; done) | (simp [*]; done)), H', ⟨Nat.le_refl _⟩, by repeat (first | exact Drawn0.refl _ | apply Drawn0.step)⟩
                case round =>
                  clear H'
                  try clear c1
                  try clear p1
                  try clear q1
                  try clear hx1
                  try clear c2
                  try clear p2
                  try clear c3
                  try clear c5
                  try clear c5b0
                  try clear c6
                  try clear p6
                  try clear c8
                  try clear c10
                  try clear c10b0
                  try clear c11
                  try clear c11b0
                  try clear p12
                  try clear q12
                  try clear hx12
                  try clear c13
                  try clear c14
                  try clear c14b0
                  try clear c14b1
                  try clear c15
                  try clear c15b0
                  try clear c15b1
                  try clear c17
                  try clear c17b0
                  try clear c17b1
                  try clear c19
                  try clear c19b0
                  try clear c19b1
                  try clear p1
                  try clear p12
                  try clear p2
                  try clear q1
                  try clear q12
                  obtain ⟨x15_3, rfl, HA, HK3, ⟨m3, rfl⟩⟩ := hrel
                  cases gk with
                  | zero => exact absurd HA.out (by simp [tartanref02_Field.l0])
                  | succ k3 =>
                    have H := HA.out
                    clear HA
                    simp only [tartanref02_Field.l0] at H
                    by_cases c20 : x15_3 ≤ (a0.size : Int)
                    · rw [if_pos c20] at H
                      have c20b0 : decide (x15_3 ≤ (a0.size : Int)) = true := decide_eq_true c20
                      clear c20
                      replace H := Option.bind_eq_some_iff.mp H
                      obtain ⟨⟨t126, t127⟩, A210, H⟩ := H
                      replace H : (if t126 > 0 then (if 0 ≤ a1 then (if a1 ≤ x15_3 then (some (a0.extract (a1 : Int).toNat (x15_3 : Int).toNat, t127, t126, 0)) else (none)) else (none)) else (if 0 ≤ x15_3 then (if x15_3 < (a0.size : Int) then (if (bt a0 x15_3) = 34 then (some ((⟨#[]⟩ : ByteArray), x15_3, 0, 3)) else (if (bt a0 x15_3) = 13 then (some ((⟨#[]⟩ : ByteArray), x15_3, 0, 6)) else (tartanref02_Field.l0 k3 a0 a1 a2 (wrap64 (x15_3 + 1))))) else (none)) else (none))) = some (r1, r2, r3, r4) := H
                      have A21 := Aside0.mk A210
                      clear A210
                      by_cases c22 : t126 > 0
                      · rw [if_pos c22] at H
                        have c22b0 : decide (0 < t126) = true := decide_eq_true c22
                        clear c22
                        by_cases c23 : 0 ≤ a1
                        · rw [if_pos c23] at H
                          have c23b0 := eq_true c23
                          have c23b1 : decide (0 ≤ a1) = true := decide_eq_true c23
                          clear c23
                          by_cases c24 : a1 ≤ x15_3
                          · rw [if_pos c24] at H
                            have c24b0 := eq_true c24
                            have c24b1 : decide (a1 ≤ x15_3) = true := decide_eq_true c24
                            clear c24
                            have c25b0 := eq_true (of_decide_eq_true (by first | (with_reducible assumption) | assumption) : x15_3 ≤ (a0.size : Int))
                            simp only [Option.some.injEq, Prod.mk.injEq] at H
                            obtain ⟨rfl, rfl, rfl, rfl⟩ := H
                            go_wp2_with (first | ((with_reducible refine gate_callee (f := 60) rfl ?_); refine goesL_ (some 81) rfl rfl Try.func60 (by kernel_rfl) rfl #[.string a0, .int .i64 x15_3, .int .u8 a2] rfl (by (try simp only [List.map_toArray, List.map_cons, List.map_nil]); first | done | rfl | (simp only [List.length_drop, List.length_take]; rfl)) ?_; (with_reducible refine (tartanref02_ends.calls k3 a0 x15_3 a2 t126 t127 _ A21.out).mono ?_); rintro e w' ⟨rfl, ⟨nd, rfl⟩⟩; refine ⟨_, rfl, ?_⟩))
                            refine bodyPost_ret (results_list (rs := [.tmp 6, .tmp 7, .tmp 8, .tmp 9]) rfl (by simp) (.tmp (.tmp (.tmp (.tmp .nil))))) rfl ?_
                            exact ⟨by first | rfl | (simp; done) | (simp [*]; done), by repeat (first | exact Drawn0.refl _ | apply Drawn0.step)⟩
                          · rw [if_neg c24] at H
                            exact absurd H (by simp)
                        · rw [if_neg c23] at H
                          exact absurd H (by simp)
                      · rw [if_neg c22] at H
                        have c22b0 : decide (0 < t126) = false := decide_eq_false c22
                        clear c22
                        by_cases c26 : 0 ≤ x15_3
                        · rw [if_pos c26] at H
                          have c26b0 : decide (0 ≤ x15_3) = true := decide_eq_true c26
                          clear c26
                          by_cases c27 : x15_3 < (a0.size : Int)
                          · rw [if_pos c27] at H
                            have c27b0 : decide (x15_3 < (a0.size : Int)) = true := decide_eq_true c27
                            clear c27
                            by_cases c29 : (bt a0 x15_3) = 34
                            · rw [if_pos c29] at H
                              have c29b0 : ((bt a0 x15_3) == 34) = true := beq_iff_eq.mpr c29
                              have c29b1 : ((bt a0 x15_3) != 34) = false := bne_eq_false_iff_eq.mpr c29
                              clear c29
                              simp only [Option.some.injEq, Prod.mk.injEq] at H
                              obtain ⟨rfl, rfl, rfl, rfl⟩ := H
                              go_wp2_with (first | ((with_reducible refine gate_callee (f := 60) rfl ?_); refine goesL_ (some 81) rfl rfl Try.func60 (by kernel_rfl) rfl #[.string a0, .int .i64 x15_3, .int .u8 a2] rfl (by (try simp only [List.map_toArray, List.map_cons, List.map_nil]); first | done | rfl | (simp only [List.length_drop, List.length_take]; rfl)) ?_; (with_reducible refine (tartanref02_ends.calls k3 a0 x15_3 a2 t126 t127 _ A21.out).mono ?_); rintro e w' ⟨rfl, ⟨nd, rfl⟩⟩; refine ⟨_, rfl, ?_⟩; have p28 : 0 ≤ (x15_3 : Int) := of_decide_eq_true (by first | (with_reducible assumption) | assumption); have q28 : x15_3 < (a0.size : Int) := of_decide_eq_true (by first | (with_reducible assumption) | assumption); have hx28 := bt_at a0 x15_3; replace p28 := eq_true p28; replace q28 := eq_true q28))
                              refine bodyPost_ret (results_list (rs := [.tmp 6, .tmp 7, .tmp 8, .tmp 9]) rfl (by simp) (.tmp (.tmp (.tmp (.tmp .nil))))) rfl ?_
                              exact ⟨by first | rfl | (simp; done) | (simp [*]; done), by repeat (first | exact Drawn0.refl _ | apply Drawn0.step)⟩
                            · rw [if_neg c29] at H
                              have c29b0 : ((bt a0 x15_3) == 34) = false := beq_eq_false_iff_ne.mpr c29
                              have c29b1 : ((bt a0 x15_3) != 34) = true := bne_iff_ne.mpr c29
                              by_cases c31 : (bt a0 x15_3) = 13
                              · rw [if_pos c31] at H
                                have c31b0 : ((bt a0 x15_3) == 13) = true := beq_iff_eq.mpr c31
                                have c31b1 : ((bt a0 x15_3) != 13) = false := bne_eq_false_iff_eq.mpr c31
                                clear c31
                                simp only [Option.some.injEq, Prod.mk.injEq] at H
                                obtain ⟨rfl, rfl, rfl, rfl⟩ := H
                                go_wp2_with (first | ((with_reducible refine gate_callee (f := 60) rfl ?_); refine goesL_ (some 81) rfl rfl Try.func60 (by kernel_rfl) rfl #[.string a0, .int .i64 x15_3, .int .u8 a2] rfl (by (try simp only [List.map_toArray, List.map_cons, List.map_nil]); first | done | rfl | (simp only [List.length_drop, List.length_take]; rfl)) ?_; (with_reducible refine (tartanref02_ends.calls k3 a0 x15_3 a2 t126 t127 _ A21.out).mono ?_); rintro e w' ⟨rfl, ⟨nd, rfl⟩⟩; refine ⟨_, rfl, ?_⟩; have p28 : 0 ≤ (x15_3 : Int) := of_decide_eq_true (by first | (with_reducible assumption) | assumption); have q28 : x15_3 < (a0.size : Int) := of_decide_eq_true (by first | (with_reducible assumption) | assumption); have hx28 := bt_at a0 x15_3; replace p28 := eq_true p28; replace q28 := eq_true q28; have p30 : 0 ≤ (x15_3 : Int) := of_decide_eq_true (by first | (with_reducible assumption) | assumption); have q30 : x15_3 < (a0.size : Int) := of_decide_eq_true (by first | (with_reducible assumption) | assumption); have hx30 := bt_at a0 x15_3; replace p30 := eq_true p30; replace q30 := eq_true q30))
                                refine bodyPost_ret (results_list (rs := [.tmp 6, .tmp 7, .tmp 8, .tmp 9]) rfl (by simp) (.tmp (.tmp (.tmp (.tmp .nil))))) rfl ?_
                                exact ⟨by first | rfl | (simp; done) | (simp [*]; done), by repeat (first | exact Drawn0.refl _ | apply Drawn0.step)⟩
                              · rw [if_neg c31] at H
                                have c31b0 : ((bt a0 x15_3) == 13) = false := beq_eq_false_iff_ne.mpr c31
                                have c31b1 : ((bt a0 x15_3) != 13) = true := bne_iff_ne.mpr c31
                                have H' := Aside0.mk H
                                clear H
                                go_wp2_with (first | ((with_reducible refine gate_callee (f := 60) rfl ?_); refine goesL_ (some 81) rfl rfl Try.func60 (by kernel_rfl) rfl #[.string a0, .int .i64 x15_3, .int .u8 a2] rfl (by (try simp only [List.map_toArray, List.map_cons, List.map_nil]); first | done | rfl | (simp only [List.length_drop, List.length_take]; rfl)) ?_; (with_reducible refine (tartanref02_ends.calls k3 a0 x15_3 a2 t126 t127 _ A21.out).mono ?_); rintro e w' ⟨rfl, ⟨nd, rfl⟩⟩; refine ⟨_, rfl, ?_⟩; have p28 : 0 ≤ (x15_3 : Int) := of_decide_eq_true (by first | (with_reducible assumption) | assumption); have q28 : x15_3 < (a0.size : Int) := of_decide_eq_true (by first | (with_reducible assumption) | assumption); have hx28 := bt_at a0 x15_3; replace p28 := eq_true p28; replace q28 := eq_true q28; have p30 : 0 ≤ (x15_3 : Int) := of_decide_eq_true (by first | (with_reducible assumption) | assumption); have q30 : x15_3 < (a0.size : Int) := of_decide_eq_true (by first | (with_reducible assumption) | assumption); have hx30 := bt_at a0 x15_3; replace p30 := eq_true p30; replace q30 := eq_true q30))
                                go_roundg k3
                                case measure => have := HJ3.out; have := HJ8.out; have := HK3.out; omega
                                case rel => exact ⟨(wrap64 (x15_3 + 1)), (by first | rfl | (simp; done) | (simp [*]; done)), H', ⟨by have := HJ3.out; have := HJ8.out; have := HK3.out; omega⟩, by repeat (first | exact Drawn0.refl _ | apply Drawn0.step)⟩
                          · rw [if_neg c27] at H
                            exact absurd H (by simp)
                        · rw [if_neg c26] at H
                          exact absurd H (by simp)
                    · rw [if_neg c20] at H
                      have c20b0 : decide (x15_3 ≤ (a0.size : Int)) = false := decide_eq_false c20
                      clear c20
                      simp only [Option.some.injEq, Prod.mk.injEq] at H
                      obtain ⟨rfl, rfl, rfl, rfl⟩ := H
                      go_wp2
                      refine bodyPost_ret (results_list (rs := [.tmp 6, .tmp 7, .tmp 8, .tmp 9]) rfl (by simp) (.tmp (.tmp (.tmp (.tmp .nil))))) rfl ?_
                      exact ⟨by first | rfl | (simp; done) | (simp [*]; done), by repeat (first | exact Drawn0.refl _ | apply Drawn0.step)⟩
        · replace c8 := Bool.eq_false_iff.mpr c8
          subst c8
          have H1 : (some ((⟨#[]⟩ : ByteArray), a1, 0, 2)) = some (r1, r2, r3, r4) := by rw [if_neg (show ¬ (false = true) by decide)] at H; exact H
          clear H
          have H := H1
          clear H1
          simp only [Option.some.injEq, Prod.mk.injEq] at H
          obtain ⟨rfl, rfl, rfl, rfl⟩ := H
          go_wp2_with (first | ((with_reducible refine gate_callee (f := 28) rfl ?_); refine goesL_ (some 28) rfl rfl Try.func28 (by kernel_rfl) rfl #[.int .u8 a2] rfl (by (try simp only [List.map_toArray, List.map_cons, List.map_nil]); first | done | rfl | (simp only [List.length_drop, List.length_take]; rfl)) ?_; (with_reducible refine (tartanref01_Good.calls a2 false _ A7.out).mono ?_); rintro e w' ⟨rfl, ⟨nd, rfl⟩⟩; refine ⟨_, rfl, ?_⟩))
          refine bodyPost_ret (results_list (rs := [.tmp 6, .tmp 7, .tmp 8, .tmp 9]) rfl (by simp) (.tmp (.tmp (.tmp (.tmp .nil))))) rfl ?_
          exact ⟨by first | rfl | (simp; done) | (simp [*]; done), by repeat (first | exact Drawn0.refl _ | apply Drawn0.step)⟩

-- BY HAND: function 22 (tartanref01_Put)

/-! ### tartanref02_Write: function 47 -/
def tartanref02_Write.l0 : Nat → List ByteArray → Int → Bool → ByteArray → Int → Option (ByteArray)
  | 0, _, _, _, _, _ => none
  | k + 1, x0, x1, x2, x7, x8 => if x8 < (x0.length : Int) then (if x8 > 0 then ((some (([x1] : List Int) : List Int)).bind fun y128 => (if x7.size + (strOfNums y128).size ≤ 9223372036854775807 then (if 0 ≤ x8 then ((tartanref01_Put.f k (rdOf ByteArray.empty x0 x8) x1).bind fun t132 => (if (x7 ++ (strOfNums y128)).size + t132.size ≤ 9223372036854775807 then (tartanref02_Write.l0 k x0 x1 x2 ((x7 ++ (strOfNums y128)) ++ t132) (wrap64 (x8 + 1))) else (none))) else (none)) else (none))) else (if 0 ≤ x8 then ((tartanref01_Put.f k (rdOf ByteArray.empty x0 x8) x1).bind fun t134 => (if x7.size + t134.size ≤ 9223372036854775807 then (tartanref02_Write.l0 k x0 x1 x2 (x7 ++ t134) (wrap64 (x8 + 1))) else (none))) else (none))) else (if x2 = true then (if x7.size + 2 ≤ 9223372036854775807 then (some (x7 ++ (⟨#[13, 10]⟩ : ByteArray))) else (none)) else (if x7.size + 1 ≤ 9223372036854775807 then (some (x7 ++ (⟨#[10]⟩ : ByteArray))) else (none)))
def tartanref02_Write.f (k : Nat) (l0 : List ByteArray) (a1 : Int) (a2 : Bool) : Option (ByteArray) := tartanref02_Write.l0 k l0 a1 a2 (⟨#[]⟩ : ByteArray) 0
theorem tartanref02_Write.mono_l : ∀ k, (∀ y0 y1 y2 y3 y4, LeO (tartanref02_Write.l0 k y0 y1 y2 y3 y4) (tartanref02_Write.l0 (k + 1) y0 y1 y2 y3 y4))
  | 0 => fun _ _ _ _ _ r h => by simp [tartanref02_Write.l0] at h
  | k + 1 => by
    have ih0 := tartanref02_Write.mono_l k
    · intro y0 y1 y2 y3 y4
      unfold tartanref02_Write.l0
      repeat' first
      | (with_reducible exact ih0 _ _ _ _ _)
      | (with_reducible exact tartanref01_Put.mono _ _ _)
      | (with_reducible exact LeO.refl _)
      | (with_reducible exact LeO.none _)
      | (with_reducible refine LeO.ite ?_ ?_)
      | (with_reducible refine LeO.bind ?_ (fun _ => ?_))
      | exact ih0 _ _ _ _ _
      | exact tartanref01_Put.mono _ _ _
      | exact LeO.none _
      | refine LeO.ite ?_ ?_
      | refine LeO.bind ?_ (fun _ => ?_)
theorem tartanref02_Write.mono : ∀ a0 a1 a2 k, LeO (tartanref02_Write.f k a0 a1 a2) (tartanref02_Write.f (k + 1) a0 a1 a2) := by
  intro a0 a1 a2 k
  have ih0 := tartanref02_Write.mono_l k
  unfold tartanref02_Write.f
  repeat' first
      | (with_reducible exact ih0 _ _ _ _ _)
      | (with_reducible exact tartanref01_Put.mono _ _ _)
      | (with_reducible exact LeO.refl _)
      | (with_reducible exact LeO.none _)
      | (with_reducible refine LeO.ite ?_ ?_)
      | (with_reducible refine LeO.bind ?_ (fun _ => ?_))
      | exact ih0 _ _ _ _ _
      | exact tartanref01_Put.mono _ _ _
      | exact LeO.none _
      | refine LeO.ite ?_ ?_
      | refine LeO.bind ?_ (fun _ => ?_)
set_option maxHeartbeats 8000000 in
set_option maxRecDepth 100000 in
theorem tartanref02_Write.calls (k : Nat) (A0 : Option Addr) (c0 : Nat) (l0 : List ByteArray) (a1 : Int) (a2 : Bool) (r : ByteArray) (w : World) (hr0 : Kd.C Kd.string w A0 l0.length l0) (hc0 : l0.length ≤ c0) (h : tartanref02_Write.f k l0 a1 a2 = some r) :
    Calls Try.prog 47 #[.slice A0 l0.length c0, .int .u8 a1, .bool a2] w fun e w' => e = .returned (.string r) ∧ Below w.heap.size w w' := by
  have HR0 := Aside0.mk hr0
  have HC0 := Aside0.mk hc0
  clear hr0 hc0
  have HB := Aside0.mk (Below.refl w.heap.size w)
  have H : (tartanref02_Write.l0 k l0 a1 a2 (⟨#[]⟩ : ByteArray) 0) = some r := h
  clear h
  have H' := Aside0.mk H
  clear H
  go_enter Try.func47, Try.ntmps47
  go_wp2
  go_loopg [7, 8] k (fun kq v7 v8 w' => ∃ (x7_1 : ByteArray) (x8_1 : Int), v7 = .string x7_1 ∧ v8 = .int .i64 x8_1 ∧ Aside0 (tartanref02_Write.l0 kq l0 a1 a2 x7_1 x8_1 = some r) ∧ Aside0 (kq ≤ k) ∧ Aside0 (Below w.heap.size w w'))
  case atStart => exact ⟨((⟨#[]⟩ : ByteArray)), (0), (by first | rfl | (simp; done) | (simp [*]; done)), (by first | rfl | (simp; done) | (simp [*]; done)), H', ⟨Nat.le_refl _⟩, ⟨by repeat (first | (with_reducible first | exact HB.out | apply below_alloc | apply pw_below_drewN | apply below_drew1) | exact HB.out)⟩⟩
  case round =>
    clear H'
    try clear p2
    obtain ⟨x7_1, x8_1, rfl, rfl, HA, HK1, HB⟩ := hrel
    cases gk with
    | zero => exact absurd HA.out (by simp [tartanref02_Write.l0])
    | succ k1 =>
      have H := HA.out
      clear HA
      simp only [tartanref02_Write.l0] at H
      by_cases c4 : x8_1 < (l0.length : Int)
      · rw [if_pos c4] at H
        have c4b0 : decide (x8_1 < (l0.length : Int)) = true := decide_eq_true c4
        clear c4
        by_cases c5 : x8_1 > 0
        · rw [if_pos c5] at H
          have c5b0 : decide (0 < x8_1) = true := decide_eq_true c5
          clear c5
          obtain ⟨y128, hy128⟩ : ∃ y_ : List Int, y_ = (([a1] : List Int)) := ⟨_, rfl⟩
          replace H : (if x7_1.size + (strOfNums y128).size ≤ 9223372036854775807 then (if 0 ≤ x8_1 then ((tartanref01_Put.f k1 (rdOf ByteArray.empty l0 x8_1) a1).bind fun t132 => (if (x7_1 ++ (strOfNums y128)).size + t132.size ≤ 9223372036854775807 then (tartanref02_Write.l0 k1 l0 a1 a2 ((x7_1 ++ (strOfNums y128)) ++ t132) (wrap64 (x8_1 + 1))) else (none))) else (none)) else (none)) = some r := by first | (rw [hy128]; with_reducible exact H) | (have H2_ := (Option.bind_some _ _).symm.trans H; rw [hy128]; with_reducible exact H2_) | (have H2_ := (Option.bind_some _ _).symm.trans H; with_reducible exact H2_) | with_reducible exact H | (rw [hy128]; exact H) | exact H
          have Ny128 := Aside0.mk hy128
          clear hy128
          by_cases c6 : x7_1.size + (strOfNums y128).size ≤ 9223372036854775807
          · rw [if_pos c6] at H
            have c6b0 := eq_true c6
            have c6b1 : decide (x7_1.size + (strOfNums y128).size ≤ 9223372036854775807) = true := decide_eq_true c6
            try have c6b2 : (9223372036854775807 < x7_1.size + (strOfNums y128).size) = False := eq_false (Nat.not_lt.2 c6)
            try have c6b3 : (9223372036854775807 < x7_1.size + ((strOfNums y128).size)) = False := eq_false (by have q_ := c6; simp only [ByteArray.size_append, ByteArray.size_extract] at q_; (try simp only [show (⟨#[]⟩ : ByteArray).size = 0 from rfl, show ∀ (a : UInt8), (⟨#[a]⟩ : ByteArray).size = 1 from fun _ => rfl, show ∀ (a b : UInt8), (⟨#[a, b]⟩ : ByteArray).size = 2 from fun _ _ => rfl] at q_); omega)
            by_cases c7 : 0 ≤ x8_1
            · rw [if_pos c7] at H
              have c7b0 : decide (0 ≤ x8_1) = true := decide_eq_true c7
              clear c7
              replace H := Option.bind_eq_some_iff.mp H
              obtain ⟨t132, A80, H⟩ := H
              replace H : (if (x7_1 ++ (strOfNums y128)).size + t132.size ≤ 9223372036854775807 then (tartanref02_Write.l0 k1 l0 a1 a2 ((x7_1 ++ (strOfNums y128)) ++ t132) (wrap64 (x8_1 + 1))) else (none)) = some r := H
              have A8 := Aside0.mk A80
              clear A80
              by_cases c9 : (x7_1 ++ (strOfNums y128)).size + t132.size ≤ 9223372036854775807
              · rw [if_pos c9] at H
                have c9b0 := eq_true c9
                have c9b1 : decide ((x7_1 ++ (strOfNums y128)).size + t132.size ≤ 9223372036854775807) = true := decide_eq_true c9
                try have c9b2 : (9223372036854775807 < (x7_1 ++ (strOfNums y128)).size + t132.size) = False := eq_false (Nat.not_lt.2 c9)
                try have c9b3 : (9223372036854775807 < x7_1.size + ((strOfNums y128).size) + t132.size) = False := eq_false (by have q_ := c9; simp only [ByteArray.size_append, ByteArray.size_extract] at q_; (try simp only [show (⟨#[]⟩ : ByteArray).size = 0 from rfl, show ∀ (a : UInt8), (⟨#[a]⟩ : ByteArray).size = 1 from fun _ => rfl, show ∀ (a b : UInt8), (⟨#[a, b]⟩ : ByteArray).size = 2 from fun _ _ => rfl] at q_); omega)
                have H' := Aside0.mk H
                clear H
                go_wp2_with (first | ((with_reducible refine gate_dst (N := 19) rfl ?_); refine Kd.R_lit (Kd.int .u8) _ 5 ?hg (N := 19) ?hd (xs := ([a1] : List Int)) (inner := [.int .u8 a1]) (ok := fun _ => True) (okp := fun _ => True) ?hr ?hp (fun _ hk => hk) trivial (Below.refl _ _) (Nat.le_refl _) (by simp) ?_; (case hd => rfl); (case hg => rfl); (case hr => first | (go_simp; done) | (go_simp; rfl)); (case hp => exact (Reps.one (show Kd.M (Kd.int .u8) _ _ _ a1 [.int .u8 a1] from rfl) (Reps.none _ _))); intro v129 w10 ho11 hb hg_ hnew_; clear hg_ hnew_; (first | rw [← Ny128.out] at ho11 | (simp only [Int.reduceToNat] at ho11; rw [← Ny128.out] at ho11)); have n0_ := Aside0.mk (Kd.R_lower ho11 (below_size (by repeat (first | (with_reducible first | exact HB.out | apply below_alloc | apply pw_below_drewN | apply below_drew1) | exact HB.out)))); have n1_ := Aside0.mk (below_step (by repeat (first | (with_reducible first | exact HB.out | apply below_alloc | apply pw_below_drewN | apply below_drew1) | exact HB.out)) hb); clear HB; have HO130 := n0_; have HB := n1_; clear n0_ n1_; clear hb ho11; have hcv12 := own_string (P := Try.prog) Try.underlying54 Try.underlying5 Try.underlying9 (Kd.own_of_R HO130.out); have p131 : 0 ≤ (x8_1 : Int) := of_decide_eq_true (by first | (with_reducible assumption) | assumption); have q131 : x8_1 < (l0.length : Int) := of_decide_eq_true (by first | (with_reducible assumption) | assumption); obtain ⟨ad131, e131, hx131_0⟩ := Kd.at_string HR0.out x8_1 p131 q131; cases e131; replace hx131_0 := (HB.out.cell (World.block_lt_of_cell? w _ hx131_0)).trans hx131_0; replace p131 := eq_true p131; replace q131 := eq_true q131) | ((with_reducible refine gate_callee (f := 22) rfl ?_); refine goesL_ (some 28) rfl rfl Try.func22 (by kernel_rfl) rfl #[.string (rdOf ByteArray.empty l0 x8_1), .int .u8 a1] rfl (by (try simp only [List.map_toArray, List.map_cons, List.map_nil]); first | done | rfl | (simp only [List.length_drop, List.length_take]; rfl)) ?_; (with_reducible refine (tartanref01_Put.calls k1 (rdOf ByteArray.empty l0 x8_1) a1 t132 _ A8.out).mono ?_); rintro e w13 ⟨rfl, hb⟩; refine ⟨_, rfl, ?_⟩; have n0_ := Aside0.mk (Kd.R_below (by (with_reducible repeat (first | apply Kd.R_alloc | apply Kd.R_drewN | apply Kd.R_drew)); exact HO130.out) hb); have n1_ := Aside0.mk (below_step (by repeat (first | (with_reducible first | exact HB.out | apply below_alloc | apply pw_below_drewN | apply below_drew1) | exact HB.out)) hb); clear HO130; clear HB; have HO130 := n0_; have HB := n1_; clear n0_ n1_; (try clear hb); (try clear hb2); (try clear hk); (try clear hi)))
                go_roundg k1
                case measure => have := HK1.out; omega
                case rel => exact ⟨((x7_1 ++ (strOfNums y128)) ++ t132), (wrap64 (x8_1 + 1)), (by first | rfl | (simp; done) | (simp [*]; done)), (by first | rfl | (simp; done) | (simp [*]; done)), H', ⟨by have := HK1.out; omega⟩, ⟨by repeat (first | (with_reducible first | exact HB.out | apply below_alloc | apply pw_below_drewN | apply below_drew1) | exact HB.out)⟩⟩
              · rw [if_neg c9] at H
                exact absurd H (by simp)
            · rw [if_neg c7] at H
              exact absurd H (by simp)
          · rw [if_neg c6] at H
            exact absurd H (by simp)
        · rw [if_neg c5] at H
          have c5b0 : decide (0 < x8_1) = false := decide_eq_false c5
          clear c5
          by_cases c14 : 0 ≤ x8_1
          · rw [if_pos c14] at H
            have c14b0 : decide (0 ≤ x8_1) = true := decide_eq_true c14
            clear c14
            replace H := Option.bind_eq_some_iff.mp H
            obtain ⟨t134, A150, H⟩ := H
            replace H : (if x7_1.size + t134.size ≤ 9223372036854775807 then (tartanref02_Write.l0 k1 l0 a1 a2 (x7_1 ++ t134) (wrap64 (x8_1 + 1))) else (none)) = some r := H
            have A15 := Aside0.mk A150
            clear A150
            by_cases c16 : x7_1.size + t134.size ≤ 9223372036854775807
            · rw [if_pos c16] at H
              have c16b0 := eq_true c16
              have c16b1 : decide (x7_1.size + t134.size ≤ 9223372036854775807) = true := decide_eq_true c16
              try have c16b2 : (9223372036854775807 < x7_1.size + t134.size) = False := eq_false (Nat.not_lt.2 c16)
              have H' := Aside0.mk H
              clear H
              have p133 : 0 ≤ (x8_1 : Int) := of_decide_eq_true (by first | (with_reducible assumption) | assumption)
              have q133 : x8_1 < (l0.length : Int) := of_decide_eq_true (by first | (with_reducible assumption) | assumption)
              obtain ⟨ad133, e133, hx133_0⟩ := Kd.at_string HR0.out x8_1 p133 q133
              cases e133
              replace hx133_0 := (HB.out.cell (World.block_lt_of_cell? w _ hx133_0)).trans hx133_0
              replace p133 := eq_true p133
              replace q133 := eq_true q133
              go_wp2_with (first | ((with_reducible refine gate_callee (f := 22) rfl ?_); refine goesL_ (some 28) rfl rfl Try.func22 (by kernel_rfl) rfl #[.string (rdOf ByteArray.empty l0 x8_1), .int .u8 a1] rfl (by (try simp only [List.map_toArray, List.map_cons, List.map_nil]); first | done | rfl | (simp only [List.length_drop, List.length_take]; rfl)) ?_; (with_reducible refine (tartanref01_Put.calls k1 (rdOf ByteArray.empty l0 x8_1) a1 t134 _ A15.out).mono ?_); rintro e w17 ⟨rfl, hb⟩; refine ⟨_, rfl, ?_⟩; have n0_ := Aside0.mk (below_step (by repeat (first | (with_reducible first | exact HB.out | apply below_alloc | apply pw_below_drewN | apply below_drew1) | exact HB.out)) hb); clear HB; have HB := n0_; clear n0_; (try clear hb); (try clear hb2); (try clear hk); (try clear hi)))
              go_roundg k1
              case measure => have := HK1.out; omega
              case rel => exact ⟨(x7_1 ++ t134), (wrap64 (x8_1 + 1)), (by first | rfl | (simp; done) | (simp [*]; done)), (by first | rfl | (simp; done) | (simp [*]; done)), H', ⟨by have := HK1.out; omega⟩, ⟨by repeat (first | (with_reducible first | exact HB.out | apply below_alloc | apply pw_below_drewN | apply below_drew1) | exact HB.out)⟩⟩
            · rw [if_neg c16] at H
              exact absurd H (by simp)
          · rw [if_neg c14] at H
            exact absurd H (by simp)
      · rw [if_neg c4] at H
        have c4b0 : decide (x8_1 < (l0.length : Int)) = false := decide_eq_false c4
        clear c4
        by_cases c18 : a2 = true
        · subst c18
          have H1 : (if x7_1.size + 2 ≤ 9223372036854775807 then (some (x7_1 ++ (⟨#[13, 10]⟩ : ByteArray))) else (none)) = some r := by rw [if_pos rfl] at H; exact H
          clear H
          have H := H1
          clear H1
          by_cases c19 : x7_1.size + 2 ≤ 9223372036854775807
          · rw [if_pos c19] at H
            have c19b0 := eq_true c19
            have c19b1 : decide (x7_1.size + 2 ≤ 9223372036854775807) = true := decide_eq_true c19
            try have c19b2 : (9223372036854775807 < x7_1.size + 2) = False := eq_false (Nat.not_lt.2 c19)
            obtain rfl := Option.some.inj H
            go_wp2
            go_ret
            exact ⟨by first | rfl | (simp [errW_none, errW_some] <;> rfl) | (simp [*, errW_none, errW_some] <;> rfl), by repeat (first | (with_reducible first | exact HB.out | apply below_alloc | apply pw_below_drewN | apply below_drew1) | exact HB.out)⟩
          · rw [if_neg c19] at H
            exact absurd H (by simp)
        · replace c18 := Bool.eq_false_iff.mpr c18
          subst c18
          have H1 : (if x7_1.size + 1 ≤ 9223372036854775807 then (some (x7_1 ++ (⟨#[10]⟩ : ByteArray))) else (none)) = some r := by rw [if_neg (show ¬ (false = true) by decide)] at H; exact H
          clear H
          have H := H1
          clear H1
          by_cases c20 : x7_1.size + 1 ≤ 9223372036854775807
          · rw [if_pos c20] at H
            have c20b0 := eq_true c20
            have c20b1 : decide (x7_1.size + 1 ≤ 9223372036854775807) = true := decide_eq_true c20
            try have c20b2 : (9223372036854775807 < x7_1.size + 1) = False := eq_false (Nat.not_lt.2 c20)
            obtain rfl := Option.some.inj H
            go_wp2
            go_ret
            exact ⟨by first | rfl | (simp [errW_none, errW_some] <;> rfl) | (simp [*, errW_none, errW_some] <;> rfl), by repeat (first | (with_reducible first | exact HB.out | apply below_alloc | apply pw_below_drewN | apply below_drew1) | exact HB.out)⟩
          · rw [if_neg c20] at H
            exact absurd H (by simp)

end Go.Proofs.Ytggodagdfldndaa.Q.L
