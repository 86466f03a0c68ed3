/- Walks of Go functions of this seat against plain Lean functions, written by a program of this session (the kit's print, with hand-proved contracts for what it does not take). Lean checks them. -/
import Derived.Test.YtggodagdfldndaaQ0
namespace Go.Proofs.Ytggodagdfldndaa.Q
open Go.RowKit Go.Proofs.YtggodagdfldndaaW.PrintWords Go.Proofs.YtggodagdfldndaaW.PrintLast Go.Proofs.YtggodagdfldndaaW.PrintMore
attribute [local go_sem] max2_int min2_int max_two min_two max_three min_three max_four min_four   -- for this text's walks alone
set_option linter.unusedVariables false
set_option linter.unusedSimpArgs false

/-! ### tartanref01_rest: function 54 -/
def tartanref01_rest.l0 : Nat → ByteArray → ByteArray → Int → Option (ByteArray × Int × Bool)
  | 0, _, _, _ => none
  | k + 1, x0, x1, x2 => if x2 < (x0.size : Int) then (if 0 ≤ x2 then (if (bt x0 x2) = 34 then (if (wrap64 (x2 + 1)) < (x0.size : Int) then (if 0 ≤ (wrap64 (x2 + 1)) then (if (bt x0 (wrap64 (x2 + 1))) = 34 then (if x1.size + 1 ≤ 9223372036854775807 then (tartanref01_rest.l0 k x0 (x1 ++ (⟨#[34]⟩ : ByteArray)) (wrap64 (x2 + 2))) else (none)) else (some (x1, wrap64 (x2 + 1), true))) else (none)) else (some (x1, wrap64 (x2 + 1), true))) else (if x2 ≤ (wrap64 (x2 + 1)) then (if (wrap64 (x2 + 1)) ≤ (x0.size : Int) then (if x1.size + (x0.extract (x2 : Int).toNat ((wrap64 (x2 + 1)) : Int).toNat).size ≤ 9223372036854775807 then (tartanref01_rest.l0 k x0 (x1 ++ (x0.extract (x2 : Int).toNat ((wrap64 (x2 + 1)) : Int).toNat)) (wrap64 (x2 + 1))) else (none)) else (none)) else (none))) else (none)) else (some ((⟨#[]⟩ : ByteArray), 0, false))
def tartanref01_rest.f (k : Nat) (a0 : ByteArray) (a1 : ByteArray) (a2 : Int) : Option (ByteArray × Int × Bool) := tartanref01_rest.l0 k a0 a1 a2
theorem tartanref01_rest.mono_l : ∀ k, (∀ y0 y1 y2, LeO (tartanref01_rest.l0 k y0 y1 y2) (tartanref01_rest.l0 (k + 1) y0 y1 y2))
  | 0 => fun _ _ _ r h => by simp [tartanref01_rest.l0] at h
  | k + 1 => by
    have ih0 := tartanref01_rest.mono_l k
    · intro y0 y1 y2
      unfold tartanref01_rest.l0
      repeat' first
      | (with_reducible exact ih0 _ _ _)
      | (with_reducible exact LeO.refl _)
      | (with_reducible exact LeO.none _)
      | (with_reducible refine LeO.ite ?_ ?_)
      | (with_reducible refine LeO.bind ?_ (fun _ => ?_))
      | exact ih0 _ _ _
      | exact LeO.none _
      | refine LeO.ite ?_ ?_
      | refine LeO.bind ?_ (fun _ => ?_)
theorem tartanref01_rest.mono : ∀ a0 a1 a2 k, LeO (tartanref01_rest.f k a0 a1 a2) (tartanref01_rest.f (k + 1) a0 a1 a2) := by
  intro a0 a1 a2 k
  have ih0 := tartanref01_rest.mono_l k
  unfold tartanref01_rest.f
  repeat' first
      | (with_reducible exact ih0 _ _ _)
      | (with_reducible exact LeO.refl _)
      | (with_reducible exact LeO.none _)
      | (with_reducible refine LeO.ite ?_ ?_)
      | (with_reducible refine LeO.bind ?_ (fun _ => ?_))
      | exact ih0 _ _ _
      | exact LeO.none _
      | refine LeO.ite ?_ ?_
      | refine LeO.bind ?_ (fun _ => ?_)
set_option maxHeartbeats 8000000 in
set_option maxRecDepth 100000 in
theorem tartanref01_rest.calls (k : Nat) (a0 : ByteArray) (a1 : ByteArray) (a2 : Int) (r1 : ByteArray) (r2 : Int) (r3 : Bool) (w : World) (h : tartanref01_rest.f k a0 a1 a2 = some (r1, r2, r3)) :
    Calls Try.prog 54 #[.string a0, .string a1, .int .i64 a2] w fun e w' => e = .returned (.tuple #[.string r1, .int .i64 r2, .bool r3]) ∧ Drawn0 w w' := by
  have H : (tartanref01_rest.l0 k a0 a1 a2) = some (r1, r2, r3) := h
  clear h
  have H' := Aside0.mk H
  clear H
  go_enter Try.func54, Try.ntmps54
  go_wp2
  go_loopg [1, 2] k (fun kq v1 v2 w' => ∃ (x1_1 : ByteArray) (x2_1 : Int), v1 = .string x1_1 ∧ v2 = .int .i64 x2_1 ∧ Aside0 (tartanref01_rest.l0 kq a0 x1_1 x2_1 = some (r1, r2, r3)) ∧ Aside0 (kq ≤ k) ∧ Drawn0 w w')
  case atStart => exact ⟨(a1), (a2), (by first | rfl | (simp; done) | (simp [*]; done)), (by first | rfl | (simp; done) | (simp [*]; done)), H', ⟨Nat.le_refl _⟩, by repeat (first | exact Drawn0.refl _ | apply Drawn0.step)⟩
  case round =>
    clear H'
    try clear p2
    obtain ⟨x1_1, x2_1, rfl, rfl, HA, HK1, ⟨m1, rfl⟩⟩ := hrel
    cases gk with
    | zero => exact absurd HA.out (by simp [tartanref01_rest.l0])
    | succ k1 =>
      have H := HA.out
      clear HA
      simp only [tartanref01_rest.l0] at H
      by_cases c4 : x2_1 < (a0.size : Int)
      · rw [if_pos c4] at H
        have c4b0 : decide (x2_1 < (a0.size : Int)) = true := decide_eq_true c4
        clear c4
        by_cases c5 : 0 ≤ x2_1
        · rw [if_pos c5] at H
          have c5b0 : decide (0 ≤ x2_1) = true := decide_eq_true c5
          clear c5
          by_cases c7 : (bt a0 x2_1) = 34
          · rw [if_pos c7] at H
            have c7b0 : ((bt a0 x2_1) == 34) = true := beq_iff_eq.mpr c7
            have c7b1 : ((bt a0 x2_1) != 34) = false := bne_eq_false_iff_eq.mpr c7
            clear c7
            by_cases c8 : (wrap64 (x2_1 + 1)) < (a0.size : Int)
            · rw [if_pos c8] at H
              have c8b0 : decide ((wrap64 (x2_1 + 1)) < (a0.size : Int)) = true := decide_eq_true c8
              clear c8
              obtain ⟨ji9, hji9⟩ : ∃ j_ : Int, (wrap64 (x2_1 + 1)) = j_ := ⟨_, rfl⟩
              replace H : (if 0 ≤ (ji9) then (if (bt a0 (ji9)) = 34 then (if x1_1.size + 1 ≤ 9223372036854775807 then (tartanref01_rest.l0 k1 a0 (x1_1 ++ (⟨#[34]⟩ : ByteArray)) (wrap64 (x2_1 + 2))) else (none)) else (some (x1_1, ji9, true))) else (none)) = some (r1, r2, r3) := by first | (rw [hji9] at H; exact H) | (simp only [hji9] at H ⊢; exact H)
              (try rw [hji9] at c8b0)
              have hji9w : (IntKind.i64.wrap (x2_1 + 1)) = ji9 := (i64_w _).trans hji9
              by_cases c10 : 0 ≤ (ji9)
              · rw [if_pos c10] at H
                have c10b0 : decide (0 ≤ (ji9)) = true := decide_eq_true c10
                clear c10
                by_cases c12 : (bt a0 (ji9)) = 34
                · rw [if_pos c12] at H
                  have c12b0 : ((bt a0 (ji9)) == 34) = true := beq_iff_eq.mpr c12
                  have c12b1 : ((bt a0 (ji9)) != 34) = false := bne_eq_false_iff_eq.mpr c12
                  clear c12
                  by_cases c13 : x1_1.size + 1 ≤ 9223372036854775807
                  · rw [if_pos c13] at H
                    have c13b0 := eq_true c13
                    have c13b1 : decide (x1_1.size + 1 ≤ 9223372036854775807) = true := decide_eq_true c13
                    try have c13b2 : (9223372036854775807 < x1_1.size + 1) = False := eq_false (Nat.not_lt.2 c13)
                    have H' := Aside0.mk H
                    clear H
                    have p6 : 0 ≤ (x2_1 : Int) := of_decide_eq_true (by first | (with_reducible assumption) | assumption)
                    have q6 : x2_1 < (a0.size : Int) := of_decide_eq_true (by first | (with_reducible assumption) | assumption)
                    have hx6 := bt_at a0 x2_1
                    replace p6 := eq_true p6
                    replace q6 := eq_true q6
                    have p11 : 0 ≤ ((ji9) : Int) := of_decide_eq_true (by first | (with_reducible assumption) | assumption)
                    have q11 : (ji9) < (a0.size : Int) := of_decide_eq_true (by first | (with_reducible assumption) | assumption)
                    have hx11 := bt_at a0 (ji9)
                    replace p11 := eq_true p11
                    replace q11 := eq_true q11
                    go_wp2
                    go_roundg k1
                    case measure => have := HK1.out; omega
                    case rel => exact ⟨(x1_1 ++ (⟨#[34]⟩ : ByteArray)), (wrap64 (x2_1 + 2)), (by first | rfl | (simp; done) | (simp [*]; done)), (by first | rfl | (simp; done) | (simp [*]; done)), H', ⟨by have := HK1.out; omega⟩, by repeat (first | exact Drawn0.refl _ | apply Drawn0.step)⟩
                  · rw [if_neg c13] at H
                    exact absurd H (by simp)
                · rw [if_neg c12] at H
                  have c12b0 : ((bt a0 (ji9)) == 34) = false := beq_eq_false_iff_ne.mpr c12
                  have c12b1 : ((bt a0 (ji9)) != 34) = true := bne_iff_ne.mpr c12
                  simp only [Option.some.injEq, Prod.mk.injEq] at H
                  obtain ⟨rfl, rfl, rfl⟩ := H
                  have p6 : 0 ≤ (x2_1 : Int) := of_decide_eq_true (by first | (with_reducible assumption) | assumption)
                  have q6 : x2_1 < (a0.size : Int) := of_decide_eq_true (by first | (with_reducible assumption) | assumption)
                  have hx6 := bt_at a0 x2_1
                  replace p6 := eq_true p6
                  replace q6 := eq_true q6
                  have p11 : 0 ≤ ((ji9) : Int) := of_decide_eq_true (by first | (with_reducible assumption) | assumption)
                  have q11 : (ji9) < (a0.size : Int) := of_decide_eq_true (by first | (with_reducible assumption) | assumption)
                  have hx11 := bt_at a0 (ji9)
                  replace p11 := eq_true p11
                  replace q11 := eq_true q11
                  go_wp2
                  go_ret3
                  exact ⟨by first | rfl | (simp; done) | (simp only [← hji9] <;> (first | rfl | simp)) | (simp [*]; done), by repeat (first | exact Drawn0.refl _ | apply Drawn0.step)⟩
              · rw [if_neg c10] at H
                exact absurd H (by simp)
            · rw [if_neg c8] at H
              have c8b0 : decide ((wrap64 (x2_1 + 1)) < (a0.size : Int)) = false := decide_eq_false c8
              clear c8
              simp only [Option.some.injEq, Prod.mk.injEq] at H
              obtain ⟨rfl, rfl, rfl⟩ := H
              have p6 : 0 ≤ (x2_1 : Int) := of_decide_eq_true (by first | (with_reducible assumption) | assumption)
              have q6 : x2_1 < (a0.size : Int) := of_decide_eq_true (by first | (with_reducible assumption) | assumption)
              have hx6 := bt_at a0 x2_1
              replace p6 := eq_true p6
              replace q6 := eq_true q6
              go_wp2
              go_ret3
              exact ⟨by first | rfl | (simp; done) | (simp [*]; done), by repeat (first | exact Drawn0.refl _ | apply Drawn0.step)⟩
          · rw [if_neg c7] at H
            have c7b0 : ((bt a0 x2_1) == 34) = false := beq_eq_false_iff_ne.mpr c7
            have c7b1 : ((bt a0 x2_1) != 34) = true := bne_iff_ne.mpr c7
            have c14b0 := eq_true (of_decide_eq_true (by first | (with_reducible assumption) | assumption) : 0 ≤ x2_1)
            by_cases c15 : x2_1 ≤ (wrap64 (x2_1 + 1))
            · rw [if_pos c15] at H
              have c15b0 := eq_true c15
              have c15b1 : decide (x2_1 ≤ (wrap64 (x2_1 + 1))) = true := decide_eq_true c15
              by_cases c16 : (wrap64 (x2_1 + 1)) ≤ (a0.size : Int)
              · rw [if_pos c16] at H
                have c16b0 := eq_true c16
                have c16b1 : decide ((wrap64 (x2_1 + 1)) ≤ (a0.size : Int)) = true := decide_eq_true c16
                by_cases c17 : x1_1.size + (a0.extract (x2_1 : Int).toNat ((wrap64 (x2_1 + 1)) : Int).toNat).size ≤ 9223372036854775807
                · rw [if_pos c17] at H
                  have c17b0 := eq_true c17
                  have c17b1 : decide (x1_1.size + (a0.extract (x2_1 : Int).toNat ((wrap64 (x2_1 + 1)) : Int).toNat).size ≤ 9223372036854775807) = true := decide_eq_true c17
                  try have c17b2 : (9223372036854775807 < x1_1.size + (a0.extract (x2_1 : Int).toNat ((wrap64 (x2_1 + 1)) : Int).toNat).size) = False := eq_false (Nat.not_lt.2 c17)
                  try have c17b3 : (9223372036854775807 < x1_1.size + (min ((wrap64 (x2_1 + 1)) : Int).toNat a0.size - (x2_1 : Int).toNat)) = False := eq_false (by have q_ := c17; simp only [ByteArray.size_append, ByteArray.size_extract] at q_; (try simp only [show (⟨#[]⟩ : ByteArray).size = 0 from rfl, show ∀ (a : UInt8), (⟨#[a]⟩ : ByteArray).size = 1 from fun _ => rfl, show ∀ (a b : UInt8), (⟨#[a, b]⟩ : ByteArray).size = 2 from fun _ _ => rfl] at q_); omega)
                  have H' := Aside0.mk H
                  clear H
                  have p6 : 0 ≤ (x2_1 : Int) := of_decide_eq_true (by first | (with_reducible assumption) | assumption)
                  have q6 : x2_1 < (a0.size : Int) := of_decide_eq_true (by first | (with_reducible assumption) | assumption)
                  have hx6 := bt_at a0 x2_1
                  replace p6 := eq_true p6
                  replace q6 := eq_true q6
                  go_wp2
                  go_roundg k1
                  case measure => have := HK1.out; omega
                  case rel => exact ⟨(x1_1 ++ (a0.extract (x2_1 : Int).toNat ((wrap64 (x2_1 + 1)) : Int).toNat)), (wrap64 (x2_1 + 1)), (by first | rfl | (simp; done) | (simp [*]; done)), (by first | rfl | (simp; done) | (simp [*]; done)), H', ⟨by have := HK1.out; omega⟩, by repeat (first | exact Drawn0.refl _ | apply Drawn0.step)⟩
                · rw [if_neg c17] at H
                  exact absurd H (by simp)
              · rw [if_neg c16] at H
                exact absurd H (by simp)
            · rw [if_neg c15] at H
              exact absurd H (by simp)
        · rw [if_neg c5] at H
          exact absurd H (by simp)
      · rw [if_neg c4] at H
        have c4b0 : decide (x2_1 < (a0.size : Int)) = false := decide_eq_false c4
        clear c4
        simp only [Option.some.injEq, Prod.mk.injEq] at H
        obtain ⟨rfl, rfl, rfl⟩ := H
        go_wp2
        go_ret3
        exact ⟨by first | rfl | (simp; done) | (simp [*]; done), by repeat (first | exact Drawn0.refl _ | apply Drawn0.step)⟩

/-! ### tartanref01_Get: function 32 -/
def tartanref01_Get.j0 : Nat → ByteArray → Bool → Option (ByteArray × Int × Int)
  | 0, _, _ => none
  | k + 1, x0, x14 => if x14 = true then (some ((⟨#[]⟩ : ByteArray), 0, 3)) else ((tartanref01_rest.f k x0 (⟨#[]⟩ : ByteArray) 1).bind fun bt141 => (if bt141.2.2 = true then (some (bt141.1, bt141.2.1, 0)) else (some ((⟨#[]⟩ : ByteArray), 0, 4))))
def tartanref01_Get.f (k : Nat) (a0 : ByteArray) : Option (ByteArray × Int × Int) := if a0.toList = ([] : List UInt8) then (tartanref01_Get.j0 k a0 true) else (if 0 < (a0.size : Int) then (tartanref01_Get.j0 k a0 ((bt a0 0) != 34)) else (none))
theorem tartanref01_Get.mono_l : ∀ k, (∀ y0 y1, LeO (tartanref01_Get.j0 k y0 y1) (tartanref01_Get.j0 (k + 1) y0 y1))
  | 0 => fun _ _ r h => by simp [tartanref01_Get.j0] at h
  | k + 1 => by
    have ih0 := tartanref01_Get.mono_l k
    · intro y0 y1
      unfold tartanref01_Get.j0
      repeat' first
      | (with_reducible exact ih0 _ _)
      | (with_reducible exact tartanref01_rest.mono _ _ _ _)
      | (with_reducible exact LeO.refl _)
      | (with_reducible exact LeO.none _)
      | (with_reducible refine LeO.ite ?_ ?_)
      | (with_reducible refine LeO.bind ?_ (fun _ => ?_))
      | exact ih0 _ _
      | exact tartanref01_rest.mono _ _ _ _
      | exact LeO.none _
      | refine LeO.ite ?_ ?_
      | refine LeO.bind ?_ (fun _ => ?_)
theorem tartanref01_Get.mono : ∀ a0 k, LeO (tartanref01_Get.f k a0) (tartanref01_Get.f (k + 1) a0) := by
  intro a0 k
  have ih0 := tartanref01_Get.mono_l k
  unfold tartanref01_Get.f
  repeat' first
      | (with_reducible exact ih0 _ _)
      | (with_reducible exact tartanref01_rest.mono _ _ _ _)
      | (with_reducible exact LeO.refl _)
      | (with_reducible exact LeO.none _)
      | (with_reducible refine LeO.ite ?_ ?_)
      | (with_reducible refine LeO.bind ?_ (fun _ => ?_))
      | exact ih0 _ _
      | exact tartanref01_rest.mono _ _ _ _
      | exact LeO.none _
      | refine LeO.ite ?_ ?_
      | refine LeO.bind ?_ (fun _ => ?_)
set_option maxHeartbeats 8000000 in
set_option maxRecDepth 100000 in
theorem tartanref01_Get.calls (k : Nat) (a0 : ByteArray) (r1 : ByteArray) (r2 : Int) (r3 : Int) (w : World) (h : tartanref01_Get.f k a0 = some (r1, r2, r3)) :
    Calls Try.prog 32 #[.string a0] w fun e w' => e = .returned (.tuple #[.string r1, .int .i64 r2, .int .i64 r3]) ∧ Drawn0 w w' := by
  have H : (if a0.toList = ([] : List UInt8) then (tartanref01_Get.j0 k a0 true) else (if 0 < (a0.size : Int) then (tartanref01_Get.j0 k a0 ((bt a0 0) != 34)) else (none))) = some (r1, r2, r3) := h
  clear h
  have HC2 := Aside0.mk H
  clear H
  go_enter Try.func32, Try.ntmps32
  go_upto_region 1 with (fail)
  go_cut [14] (fun v14 wc => ∃ (kq : Nat) (x14_1 : Bool), v14 = .bool x14_1 ∧ Aside0 (tartanref01_Get.j0 kq a0 x14_1 = some (r1, r2, r3)) ∧ Aside0 (kq ≤ k) ∧ Drawn0 w wc)
  case first =>
    have H := HC2.out
    clear HC2
    by_cases c3 : a0.toList = ([] : List UInt8)
    · rw [if_pos c3] at H
      have c3b0 : (a0.toList == ([] : List UInt8)) = true := beq_iff_eq.mpr c3
      have c3b1 : (a0.toList != ([] : List UInt8)) = false := bne_eq_false_iff_eq.mpr c3
      clear c3
      (first | rw [c3b0] | (simp only [i64_w, i32_w]; rw [c3b0]) | skip)
      have H' := Aside0.mk H
      clear H
      go_wp2
      go_meet
      case rel => exact ⟨_, (true), (by first | rfl | (simp; done) | (simp [*]; done)), H', ⟨by first | omega | exact Nat.le_refl _⟩, by repeat (first | exact Drawn0.refl _ | apply Drawn0.step)⟩
    · rw [if_neg c3] at H
      have c3b0 : (a0.toList == ([] : List UInt8)) = false := beq_eq_false_iff_ne.mpr c3
      have c3b1 : (a0.toList != ([] : List UInt8)) = true := bne_iff_ne.mpr c3
      (first | rw [c3b0] | (simp only [i64_w, i32_w]; rw [c3b0]) | skip)
      by_cases c4 : 0 < (a0.size : Int)
      · rw [if_pos c4] at H
        have c4b0 : decide (0 < (a0.size : Int)) = true := decide_eq_true c4
        have c4b1 : decide (0 < a0.size) = true := decide_eq_true (by omega)
        clear c4
        have H' := Aside0.mk H
        clear H
        have p5 : 0 ≤ (0 : Int) := (by omega)
        have q5 : 0 < a0.size := (by have : (0 : Int) < (a0.size : Int) := of_decide_eq_true (by first | (with_reducible assumption) | assumption); omega)
        have hx5 : ∀ h : 0 < a0.size, ((a0[0]'h).toNat : Int) = bt a0 0 := bt_at a0 0
        clear p5
        have qi5 : (0 < (a0.size : Int)) = True := eq_true (of_decide_eq_true (by first | (with_reducible assumption) | assumption))
        replace q5 := eq_true q5
        go_wp2
        go_meet
        case rel => exact ⟨_, (((bt a0 0) != 34)), (by first | rfl | (simp; done) | (simp [*]; done)), H', ⟨by first | omega | exact Nat.le_refl _⟩, by repeat (first | exact Drawn0.refl _ | apply Drawn0.step)⟩
      · rw [if_neg c4] at H
        exact absurd H (by simp)
  case rest =>
    clear HC2
    try clear p2
    try clear c3
    try clear c3b0
    try clear c3b1
    try clear c4
    try clear c4b0
    try clear c4b1
    try clear p5
    try clear q5
    try clear hx5
    try clear qi5
    try clear p5
    try clear q5
    obtain ⟨kq, x14_1, rfl, HA, HJ1, ⟨mc1, rfl⟩⟩ := hcut
    cases kq with
    | zero => exact absurd HA.out (by simp [tartanref01_Get.j0])
    | succ kj1 =>
      have H := HA.out
      clear HA
      simp only [tartanref01_Get.j0] at H
      by_cases c6 : x14_1 = true
      · subst c6
        have H1 : (some ((⟨#[]⟩ : ByteArray), 0, 3)) = some (r1, r2, r3) := by rw [if_pos rfl] at H; exact H
        clear H
        have H := H1
        clear H1
        simp only [Option.some.injEq, Prod.mk.injEq] at H
        obtain ⟨rfl, rfl, rfl⟩ := H
        go_wp2
        go_ret3
        exact ⟨by first | rfl | (simp; done) | (simp [*]; done), by repeat (first | exact Drawn0.refl _ | apply Drawn0.step)⟩
      · replace c6 := Bool.eq_false_iff.mpr c6
        subst c6
        have H1 : ((tartanref01_rest.f kj1 a0 (⟨#[]⟩ : ByteArray) 1).bind fun bt141 => (if bt141.2.2 = true then (some (bt141.1, bt141.2.1, 0)) else (some ((⟨#[]⟩ : ByteArray), 0, 4)))) = some (r1, r2, r3) := by rw [if_neg (show ¬ (false = true) by decide)] at H; exact H
        clear H
        have H := H1
        clear H1
        replace H := Option.bind_eq_some_iff.mp H
        obtain ⟨⟨t141, t142, t143⟩, A70, H⟩ := H
        replace H : (if t143 = true then (some (t141, t142, 0)) else (some ((⟨#[]⟩ : ByteArray), 0, 4))) = some (r1, r2, r3) := H
        have A7 := Aside0.mk A70
        clear A70
        by_cases c8 : t143 = true
        · subst c8
          have H1 : (some (t141, t142, 0)) = some (r1, r2, r3) := by rw [if_pos rfl] at H; exact H
          clear H
          have H := H1
          clear H1
          simp only [Option.some.injEq, Prod.mk.injEq] at H
          obtain ⟨rfl, rfl, rfl⟩ := H
          go_wp2_with (first | ((with_reducible refine gate_callee (f := 54) rfl ?_); refine goesL_ (some 17) rfl rfl Try.func54 (by kernel_rfl) rfl #[.string a0, .string (⟨#[]⟩ : ByteArray), .int .i64 1] rfl (by (try simp only [List.map_toArray, List.map_cons, List.map_nil]); first | done | rfl | (simp only [List.length_drop, List.length_take]; rfl)) ?_; (with_reducible refine (tartanref01_rest.calls kj1 a0 (⟨#[]⟩ : ByteArray) 1 t141 t142 true _ A7.out).mono ?_); rintro e w' ⟨rfl, ⟨nd, rfl⟩⟩; refine ⟨_, rfl, ?_⟩))
          go_ret3
          exact ⟨by first | rfl | (simp; done) | (simp [*]; done), by repeat (first | exact Drawn0.refl _ | apply Drawn0.step)⟩
        · replace c8 := Bool.eq_false_iff.mpr c8
          subst c8
          have H1 : (some ((⟨#[]⟩ : ByteArray), 0, 4)) = some (r1, r2, r3) := by rw [if_neg (show ¬ (false = true) by decide)] at H; exact H
          clear H
          have H := H1
          clear H1
          simp only [Option.some.injEq, Prod.mk.injEq] at H
          obtain ⟨rfl, rfl, rfl⟩ := H
          go_wp2_with (first | ((with_reducible refine gate_callee (f := 54) rfl ?_); refine goesL_ (some 17) rfl rfl Try.func54 (by kernel_rfl) rfl #[.string a0, .string (⟨#[]⟩ : ByteArray), .int .i64 1] rfl (by (try simp only [List.map_toArray, List.map_cons, List.map_nil]); first | done | rfl | (simp only [List.length_drop, List.length_take]; rfl)) ?_; (with_reducible refine (tartanref01_rest.calls kj1 a0 (⟨#[]⟩ : ByteArray) 1 t141 t142 false _ A7.out).mono ?_); rintro e w' ⟨rfl, ⟨nd, rfl⟩⟩; refine ⟨_, rfl, ?_⟩))
          go_ret3
          exact ⟨by first | rfl | (simp; done) | (simp [*]; done), by repeat (first | exact Drawn0.refl _ | apply Drawn0.step)⟩

end Go.Proofs.Ytggodagdfldndaa.Q
