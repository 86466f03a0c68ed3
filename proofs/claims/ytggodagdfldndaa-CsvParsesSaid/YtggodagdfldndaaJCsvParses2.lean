/- What the printed Lean functions of chapter 2 come to, with enough rounds: fields and records. -/
import Derived.Test.YtggodagdfldndaaJCsvParses1
import Derived.Test.YtggodagdfldndaaProg
import Derived.Below
import Derived.Deep.Draws
import Derived.Deep.AppendLies
import Derived.Maps.AppendAt
import Derived.OwnWalk
import Derived.Laws.BytesArg
import Derived.Laws.MakeOwn
import Derived.Laws.OwnMore
import Derived.Deep.OwnRows
import Derived.Tactics
import Derived.Lib.ConvBytes
import Derived.Laws.Slices
import Derived.WalkKit
import Derived.KernelRfl
import Derived.RowKit3
import Derived.Deep.LoopGhost
import Derived.Deep.QuietTactic
import Derived.BigQuiet
import Derived.WideLaws
import Derived.Deep.DeepCutAuto
import Derived.Deep.CutBlock
import Derived.Deep.RegionHeld3
import Derived.Laws.Rows
import Derived.Lib.AppendStr
import Derived.ArgAppend
import Derived.Laws.IdiomCopy
import Derived.OrdersHeld
import Derived.Laws.BitsLemmas
import Derived.RowKit
import Derived.Test.YtggodagdfldndaaJCsvParses0
set_option linter.unusedVariables false
set_option linter.unusedSimpArgs false
namespace Go.Proofs.Ytggodagdfldndaa.Q
open Go.RowKit Go.Proofs.YtggodagdfldndaaW.PrintWords Go.Proofs.YtggodagdfldndaaW.PrintLast Go.Proofs.YtggodagdfldndaaW.PrintMore
attribute [local go_sem] max2_int min2_int max_two min_two max_three min_three max_four min_four   -- for this text's walks alone
set_option linter.unusedVariables false
set_option linter.unusedSimpArgs false

-- BY HAND: function 24 (quote_Quoted)

/-! ### quote_Good: function 27 -/
def quote_Good.f (a0 : Int) : Option (Bool) := if a0 = 34 then (some false) else (if a0 = 13 then (some false) else (if a0 = 10 then (some false) else (some true)))
set_option maxHeartbeats 8000000 in
set_option maxRecDepth 100000 in
theorem quote_Good.calls (a0 : Int) (r : Bool) (w : World) (h : quote_Good.f a0 = some r) :
    Calls Try.prog 27 #[.int .u8 a0] w fun e w' => e = .returned (.bool r) ∧ Drawn0 w w' := by
  have H : (if a0 = 34 then (some false) else (if a0 = 13 then (some false) else (if a0 = 10 then (some false) else (some true)))) = some r := h
  clear h
  by_cases c2 : a0 = 34
  · rw [if_pos c2] at H
    have c2b0 : (a0 == 34) = true := beq_iff_eq.mpr c2
    have c2b1 : (a0 != 34) = false := bne_eq_false_iff_eq.mpr c2
    clear c2
    obtain rfl := Option.some.inj H
    go_enter Try.func27, Try.ntmps27
    go_wp2
    go_ret
    exact ⟨by first | rfl | (simp; done) | (simp [*]; done), by repeat (first | exact Drawn0.refl _ | apply Drawn0.step)⟩
  · rw [if_neg c2] at H
    have c2b0 : (a0 == 34) = false := beq_eq_false_iff_ne.mpr c2
    have c2b1 : (a0 != 34) = true := bne_iff_ne.mpr c2
    by_cases c3 : a0 = 13
    · rw [if_pos c3] at H
      have c3b0 : (a0 == 13) = true := beq_iff_eq.mpr c3
      have c3b1 : (a0 != 13) = false := bne_eq_false_iff_eq.mpr c3
      clear c3
      obtain rfl := Option.some.inj H
      go_enter Try.func27, Try.ntmps27
      go_wp2
      go_ret
      exact ⟨by first | rfl | (simp; done) | (simp [*]; done), by repeat (first | exact Drawn0.refl _ | apply Drawn0.step)⟩
    · rw [if_neg c3] at H
      have c3b0 : (a0 == 13) = false := beq_eq_false_iff_ne.mpr c3
      have c3b1 : (a0 != 13) = true := bne_iff_ne.mpr c3
      by_cases c4 : a0 = 10
      · rw [if_pos c4] at H
        have c4b0 : (a0 == 10) = true := beq_iff_eq.mpr c4
        have c4b1 : (a0 != 10) = false := bne_eq_false_iff_eq.mpr c4
        clear c4
        obtain rfl := Option.some.inj H
        go_enter Try.func27, Try.ntmps27
        go_wp2
        go_ret
        exact ⟨by first | rfl | (simp; done) | (simp [*]; done), by repeat (first | exact Drawn0.refl _ | apply Drawn0.step)⟩
      · rw [if_neg c4] at H
        have c4b0 : (a0 == 10) = false := beq_eq_false_iff_ne.mpr c4
        have c4b1 : (a0 != 10) = true := bne_iff_ne.mpr c4
        obtain rfl := Option.some.inj H
        go_enter Try.func27, Try.ntmps27
        go_wp2
        go_ret
        exact ⟨by first | rfl | (simp; done) | (simp [*]; done), by repeat (first | exact Drawn0.refl _ | apply Drawn0.step)⟩

/-! ### quote_Plain: function 29 -/
def quote_Plain.l0 : Nat → ByteArray → Int → Int → Int → Option (Bool)
  | 0, _, _, _, _ => none
  | k + 1, x0, x1, x7, x8 => if x8 < x7 then (if 0 ≤ x8 then (if x8 < (x0.size : Int) then (if (bt x0 x8) = x1 then (some false) else ((quote_Good.f (bt x0 x8)).bind fun t101 => (if t101 = true then (quote_Plain.l0 k x0 x1 x7 (wrap64 (x8 + 1))) else (some false)))) else (none)) else (none)) else (some true)
def quote_Plain.f (k : Nat) (a0 : ByteArray) (a1 : Int) : Option (Bool) := quote_Plain.l0 k a0 a1 (a0.size : Int) 0
theorem quote_Plain.mono_l : ∀ k, (∀ y0 y1 y2 y3, LeO (quote_Plain.l0 k y0 y1 y2 y3) (quote_Plain.l0 (k + 1) y0 y1 y2 y3))
  | 0 => fun _ _ _ _ r h => by simp [quote_Plain.l0] at h
  | k + 1 => by
    have ih0 := quote_Plain.mono_l k
    · intro y0 y1 y2 y3
      unfold quote_Plain.l0
      repeat' first
      | (with_reducible exact ih0 _ _ _ _)
      | (with_reducible exact LeO.refl _)
      | (with_reducible exact LeO.none _)
      | (with_reducible refine LeO.ite ?_ ?_)
      | (with_reducible refine LeO.bind ?_ (fun _ => ?_))
      | exact ih0 _ _ _ _
      | exact LeO.none _
      | refine LeO.ite ?_ ?_
      | refine LeO.bind ?_ (fun _ => ?_)
theorem quote_Plain.mono : ∀ a0 a1 k, LeO (quote_Plain.f k a0 a1) (quote_Plain.f (k + 1) a0 a1) := by
  intro a0 a1 k
  have ih0 := quote_Plain.mono_l k
  unfold quote_Plain.f
  repeat' first
      | (with_reducible exact ih0 _ _ _ _)
      | (with_reducible exact LeO.refl _)
      | (with_reducible exact LeO.none _)
      | (with_reducible refine LeO.ite ?_ ?_)
      | (with_reducible refine LeO.bind ?_ (fun _ => ?_))
      | exact ih0 _ _ _ _
      | exact LeO.none _
      | refine LeO.ite ?_ ?_
      | refine LeO.bind ?_ (fun _ => ?_)
set_option maxHeartbeats 8000000 in
set_option maxRecDepth 100000 in
theorem quote_Plain.calls (k : Nat) (a0 : ByteArray) (a1 : Int) (r : Bool) (w : World) (h : quote_Plain.f k a0 a1 = some r) :
    Calls Try.prog 29 #[.string a0, .int .u8 a1] w fun e w' => e = .returned (.bool r) ∧ Drawn0 w w' := by
  have H : (quote_Plain.l0 k a0 a1 (a0.size : Int) 0) = some r := h
  clear h
  have H' := Aside0.mk H
  clear H
  go_enter Try.func29, Try.ntmps29
  go_wp2
  go_loopg [8] k (fun kq v8 w' => ∃ (x8_1 : Int), v8 = .int .i64 x8_1 ∧ Aside0 (quote_Plain.l0 kq a0 a1 (a0.size : Int) x8_1 = some r) ∧ Aside0 (kq ≤ k) ∧ Drawn0 w w')
  case atStart => exact ⟨(0), (by first | rfl | (simp; done) | (simp [*]; done)), H', ⟨Nat.le_refl _⟩, by repeat (first | exact Drawn0.refl _ | apply Drawn0.step)⟩
  case round =>
    clear H'
    try clear c2
    try clear p2
    obtain ⟨x8_1, rfl, HA, HK1, ⟨m1, rfl⟩⟩ := hrel
    cases gk with
    | zero => exact absurd HA.out (by simp [quote_Plain.l0])
    | succ k1 =>
      have H := HA.out
      clear HA
      simp only [quote_Plain.l0] at H
      by_cases c3 : x8_1 < (a0.size : Int)
      · rw [if_pos c3] at H
        have c3b0 : decide (x8_1 < (a0.size : Int)) = true := decide_eq_true c3
        clear c3
        by_cases c4 : 0 ≤ x8_1
        · rw [if_pos c4] at H
          have c4b0 : decide (0 ≤ x8_1) = true := decide_eq_true c4
          clear c4
          by_cases c5 : x8_1 < (a0.size : Int)
          · rw [if_pos c5] at H
            have c5b0 : decide (x8_1 < (a0.size : Int)) = true := decide_eq_true c5
            clear c5
            by_cases c7 : (bt a0 x8_1) = a1
            · rw [if_pos c7] at H
              have c7b0 : ((bt a0 x8_1) == a1) = true := beq_iff_eq.mpr c7
              have c7b1 : ((bt a0 x8_1) != a1) = false := bne_eq_false_iff_eq.mpr c7
              clear c7
              obtain rfl := Option.some.inj H
              have p6 : 0 ≤ (x8_1 : Int) := of_decide_eq_true (by first | (with_reducible assumption) | assumption)
              have q6 : x8_1 < (a0.size : Int) := of_decide_eq_true (by first | (with_reducible assumption) | assumption)
              have hx6 := bt_at a0 x8_1
              replace p6 := eq_true p6
              replace q6 := eq_true q6
              go_wp2
              go_ret
              exact ⟨by first | rfl | (simp; done) | (simp [*]; done), by repeat (first | exact Drawn0.refl _ | apply Drawn0.step)⟩
            · rw [if_neg c7] at H
              have c7b0 : ((bt a0 x8_1) == a1) = false := beq_eq_false_iff_ne.mpr c7
              have c7b1 : ((bt a0 x8_1) != a1) = true := bne_iff_ne.mpr c7
              replace H := Option.bind_eq_some_iff.mp H
              obtain ⟨t101, A90, H⟩ := H
              replace H : (if t101 = true then (quote_Plain.l0 k1 a0 a1 (a0.size : Int) (wrap64 (x8_1 + 1))) else (some false)) = some r := H
              have A9 := Aside0.mk A90
              clear A90
              by_cases c10 : t101 = true
              · subst c10
                have H1 : (quote_Plain.l0 k1 a0 a1 (a0.size : Int) (wrap64 (x8_1 + 1))) = some r := by rw [if_pos rfl] at H; exact H
                clear H
                have H := H1
                clear H1
                have H' := Aside0.mk H
                clear H
                have p6 : 0 ≤ (x8_1 : Int) := of_decide_eq_true (by first | (with_reducible assumption) | assumption)
                have q6 : x8_1 < (a0.size : Int) := of_decide_eq_true (by first | (with_reducible assumption) | assumption)
                have hx6 := bt_at a0 x8_1
                replace p6 := eq_true p6
                replace q6 := eq_true q6
                have p8 : 0 ≤ (x8_1 : Int) := of_decide_eq_true (by first | (with_reducible assumption) | assumption)
                have q8 : x8_1 < (a0.size : Int) := of_decide_eq_true (by first | (with_reducible assumption) | assumption)
                have hx8 := bt_at a0 x8_1
                replace p8 := eq_true p8
                replace q8 := eq_true q8
                go_wp2_with (first | (go_at_call 27; (with_reducible refine (quote_Good.calls (bt a0 x8_1) true _ A9.out).mono ?_); rintro e w' ⟨rfl, ⟨nd, rfl⟩⟩))
                go_roundg k1
                case measure => have := HK1.out; omega
                case rel => exact ⟨(wrap64 (x8_1 + 1)), (by first | rfl | (simp; done) | (simp [*]; done)), H', ⟨by have := HK1.out; omega⟩, by repeat (first | exact Drawn0.refl _ | apply Drawn0.step)⟩
              · replace c10 := Bool.eq_false_iff.mpr c10
                subst c10
                have H1 : (some false) = some r := by rw [if_neg (show ¬ (false = true) by decide)] at H; exact H
                clear H
                have H := H1
                clear H1
                obtain rfl := Option.some.inj H
                have p6 : 0 ≤ (x8_1 : Int) := of_decide_eq_true (by first | (with_reducible assumption) | assumption)
                have q6 : x8_1 < (a0.size : Int) := of_decide_eq_true (by first | (with_reducible assumption) | assumption)
                have hx6 := bt_at a0 x8_1
                replace p6 := eq_true p6
                replace q6 := eq_true q6
                have p8 : 0 ≤ (x8_1 : Int) := of_decide_eq_true (by first | (with_reducible assumption) | assumption)
                have q8 : x8_1 < (a0.size : Int) := of_decide_eq_true (by first | (with_reducible assumption) | assumption)
                have hx8 := bt_at a0 x8_1
                replace p8 := eq_true p8
                replace q8 := eq_true q8
                go_wp2_with (first | (go_at_call 27; (with_reducible refine (quote_Good.calls (bt a0 x8_1) false _ A9.out).mono ?_); rintro e w' ⟨rfl, ⟨nd, rfl⟩⟩))
                go_ret
                exact ⟨by first | rfl | (simp; done) | (simp [*]; done), by repeat (first | exact Drawn0.refl _ | apply Drawn0.step)⟩
          · rw [if_neg c5] at H
            exact absurd H (by simp)
        · rw [if_neg c4] at H
          exact absurd H (by simp)
      · rw [if_neg c3] at H
        have c3b0 : decide (x8_1 < (a0.size : Int)) = false := decide_eq_false c3
        clear c3
        obtain rfl := Option.some.inj H
        go_wp2
        go_ret
        exact ⟨by first | rfl | (simp; done) | (simp [*]; done), by repeat (first | exact Drawn0.refl _ | apply Drawn0.step)⟩

/-! ### quote_Put: function 23 -/
def quote_Put.f (k : Nat) (a0 : ByteArray) (a1 : Int) : Option (ByteArray) := (quote_Plain.f k a0 a1).bind fun t102 => (if t102 = true then (some a0) else ((quote_Quoted.f a0).bind fun t103 => (some t103)))
theorem quote_Put.mono : ∀ a0 a1 k, LeO (quote_Put.f k a0 a1) (quote_Put.f (k + 1) a0 a1) := by
  intro a0 a1 k
  unfold quote_Put.f
  repeat' first
      | (with_reducible exact quote_Plain.mono _ _ _)
      | (with_reducible exact LeO.refl _)
      | (with_reducible exact LeO.none _)
      | (with_reducible refine LeO.ite ?_ ?_)
      | (with_reducible refine LeO.bind ?_ (fun _ => ?_))
      | exact quote_Plain.mono _ _ _
      | exact LeO.none _
      | refine LeO.ite ?_ ?_
      | refine LeO.bind ?_ (fun _ => ?_)
set_option maxHeartbeats 8000000 in
set_option maxRecDepth 100000 in
theorem quote_Put.calls (k : Nat) (a0 : ByteArray) (a1 : Int) (r : ByteArray) (w : World) (h : quote_Put.f k a0 a1 = some r) :
    Calls Try.prog 23 #[.string a0, .int .u8 a1] w fun e w' => e = .returned (.string r) ∧ Below w.heap.size w w' := by
  have HB := Aside0.mk (Below.refl w.heap.size w)
  have H : ((quote_Plain.f k a0 a1).bind fun t102 => (if t102 = true then (some a0) else ((quote_Quoted.f a0).bind fun t103 => (some t103)))) = some r := h
  clear h
  replace H := Option.bind_eq_some_iff.mp H
  obtain ⟨t102, A30, H⟩ := H
  replace H : (if t102 = true then (some a0) else ((quote_Quoted.f a0).bind fun t103 => (some t103))) = some r := H
  have A3 := Aside0.mk A30
  clear A30
  by_cases c4 : t102 = true
  · subst c4
    have H1 : (some a0) = some r := by rw [if_pos rfl] at H; exact H
    clear H
    have H := H1
    clear H1
    obtain rfl := Option.some.inj H
    go_enter Try.func23, Try.ntmps23
    go_wp2_with (first | ((with_reducible refine gate_callee (f := 29) rfl ?_); refine goesL_ (some 7) rfl rfl Try.func29 (by kernel_rfl) rfl #[.string a0, .int .u8 a1] rfl (by (try simp only [List.map_toArray, List.map_cons, List.map_nil]); first | done | rfl | (simp only [List.length_drop, List.length_take]; rfl)) ?_; (with_reducible refine (quote_Plain.calls k a0 a1 true _ A3.out).mono ?_); rintro e w' ⟨rfl, ⟨nd, rfl⟩⟩; refine ⟨_, rfl, ?_⟩))
    go_ret
    exact ⟨by first | rfl | (simp [errW_none, errW_some] <;> rfl) | (simp [*, errW_none, errW_some] <;> rfl), by repeat (first | (with_reducible first | exact HB.out | apply below_alloc | apply pw_below_drewN | apply below_drew1) | exact HB.out)⟩
  · replace c4 := Bool.eq_false_iff.mpr c4
    subst c4
    have H1 : ((quote_Quoted.f a0).bind fun t103 => (some t103)) = some r := by rw [if_neg (show ¬ (false = true) by decide)] at H; exact H
    clear H
    have H := H1
    clear H1
    replace H := Option.bind_eq_some_iff.mp H
    obtain ⟨t103, A50, H⟩ := H
    replace H : (some t103) = some r := H
    have A5 := Aside0.mk A50
    clear A50
    obtain rfl := Option.some.inj H
    go_enter Try.func23, Try.ntmps23
    go_wp2_with (first | ((with_reducible refine gate_callee (f := 29) rfl ?_); refine goesL_ (some 7) rfl rfl Try.func29 (by kernel_rfl) rfl #[.string a0, .int .u8 a1] rfl (by (try simp only [List.map_toArray, List.map_cons, List.map_nil]); first | done | rfl | (simp only [List.length_drop, List.length_take]; rfl)) ?_; (with_reducible refine (quote_Plain.calls k a0 a1 false _ A3.out).mono ?_); rintro e w' ⟨rfl, ⟨nd, rfl⟩⟩; refine ⟨_, rfl, ?_⟩) | ((with_reducible refine gate_callee (f := 24) rfl ?_); refine goesL_ (some 10) rfl rfl Try.func24 (by kernel_rfl) rfl #[.string a0] rfl (by (try simp only [List.map_toArray, List.map_cons, List.map_nil]); first | done | rfl | (simp only [List.length_drop, List.length_take]; rfl)) ?_; (with_reducible refine (quote_Quoted.calls a0 t103 _ A5.out).mono ?_); rintro e w6 ⟨rfl, hb⟩; refine ⟨_, rfl, ?_⟩; have n0_ := Aside0.mk (below_step (by repeat (first | (with_reducible first | exact HB.out | apply below_alloc | apply pw_below_drewN | apply below_drew1) | exact HB.out)) hb); clear HB; have HB := n0_; clear n0_; (try clear hb); (try clear hb2); (try clear hk); (try clear hi)))
    go_ret
    exact ⟨by first | rfl | (simp [errW_none, errW_some] <;> rfl) | (simp [*, errW_none, errW_some] <;> rfl), by repeat (first | (with_reducible first | exact HB.out | apply below_alloc | apply pw_below_drewN | apply below_drew1) | exact HB.out)⟩

-- BY HAND: function 53 (strings_Count)

/-! ### quote_Size: function 26 -/
-- BY HAND: function 31 (quote_Get)

/-! ### tartanlaw01_works: function 21 -/
/-! ### tartanref01_twice: function 52 -/
/-! ### tartanref01_Quoted: function 25 -/
end Go.Proofs.Ytggodagdfldndaa.Q

namespace Go.Proofs.Ytggodagdfldndaa.Q
open Go.RowKit Go.Proofs.YtggodagdfldndaaW.PrintWords Go.Proofs.YtggodagdfldndaaW.PrintLast Go.Proofs.YtggodagdfldndaaW.PrintMore
attribute [local go_sem] max2_int min2_int max_two min_two max_three min_three max_four min_four   -- for this text's walks alone
set_option linter.unusedVariables false
set_option linter.unusedSimpArgs false

/-! ### tartanref01_Plain: function 30 -/
/-! ### tartanref01_Put: function 22 -/
/-! ### tartanref01_Good: function 28 -/
def tartanref01_Good.f (a0 : Int) : Option (Bool) := if a0 = 34 then (some false) else (if a0 = 13 then (some false) else (some (a0 != 10)))
set_option maxHeartbeats 8000000 in
set_option maxRecDepth 100000 in
theorem tartanref01_Good.calls (a0 : Int) (r : Bool) (w : World) (h : tartanref01_Good.f a0 = some r) :
    Calls Try.prog 28 #[.int .u8 a0] w fun e w' => e = .returned (.bool r) ∧ Drawn0 w w' := by
  have H : (if a0 = 34 then (some false) else (if a0 = 13 then (some false) else (some (a0 != 10)))) = some r := h
  clear h
  by_cases c2 : a0 = 34
  · rw [if_pos c2] at H
    have c2b0 : (a0 == 34) = true := beq_iff_eq.mpr c2
    have c2b1 : (a0 != 34) = false := bne_eq_false_iff_eq.mpr c2
    clear c2
    obtain rfl := Option.some.inj H
    go_enter Try.func28, Try.ntmps28
    go_wp2
    go_ret
    exact ⟨by first | rfl | (simp; done) | (simp [*]; done), by repeat (first | exact Drawn0.refl _ | apply Drawn0.step)⟩
  · rw [if_neg c2] at H
    have c2b0 : (a0 == 34) = false := beq_eq_false_iff_ne.mpr c2
    have c2b1 : (a0 != 34) = true := bne_iff_ne.mpr c2
    by_cases c3 : a0 = 13
    · rw [if_pos c3] at H
      have c3b0 : (a0 == 13) = true := beq_iff_eq.mpr c3
      have c3b1 : (a0 != 13) = false := bne_eq_false_iff_eq.mpr c3
      clear c3
      obtain rfl := Option.some.inj H
      go_enter Try.func28, Try.ntmps28
      go_wp2
      go_ret
      exact ⟨by first | rfl | (simp; done) | (simp [*]; done), by repeat (first | exact Drawn0.refl _ | apply Drawn0.step)⟩
    · rw [if_neg c3] at H
      have c3b0 : (a0 == 13) = false := beq_eq_false_iff_ne.mpr c3
      have c3b1 : (a0 != 13) = true := bne_iff_ne.mpr c3
      obtain rfl := Option.some.inj H
      go_enter Try.func28, Try.ntmps28
      go_wp2
      go_ret
      exact ⟨by first | rfl | (simp; done) | (simp [*]; done), by repeat (first | exact Drawn0.refl _ | apply Drawn0.step)⟩

end Go.Proofs.Ytggodagdfldndaa.Q

namespace Go.Proofs.Ytggodagdfldndaa.Q
open Go.RowKit Go.Proofs.YtggodagdfldndaaW.PrintWords Go.Proofs.YtggodagdfldndaaW.PrintLast Go.Proofs.YtggodagdfldndaaW.PrintMore
attribute [local go_sem] max2_int min2_int max_two min_two max_three min_three max_four min_four   -- for this text's walks alone
set_option linter.unusedVariables false
set_option linter.unusedSimpArgs false

/-! ### tartanref01_rest: function 54 -/
/-! ### tartanref01_Get: function 32 -/
end Go.Proofs.Ytggodagdfldndaa.Q

namespace Go.Proofs.Ytggodagdfldndaa.Q.L
open Go.RowKit Go.Proofs.YtggodagdfldndaaW.PrintWords Go.Proofs.YtggodagdfldndaaW.PrintLast Go.Proofs.YtggodagdfldndaaW.PrintMore
attribute [local go_sem] max2_int min2_int max_two min_two max_three min_three max_four min_four   -- for this text's walks alone
set_option linter.unusedVariables false
set_option linter.unusedSimpArgs false

def errW : Option Int → Value
  | none => .nilIface
  | some c => .iface 0 (.int .i64 c)
theorem errW_none : errW none = .nilIface := rfl
theorem errW_some (c : Int) : errW (some c) = .iface 0 (.int .i64 c) := rfl

theorem info9 : (Try.prog.info? 9).map (fun i => (i.zero, i.size, i.bytes)) = some (some (.string ⟨#[]⟩), 1, 16) := by kernel_rfl
-- the values' own types

end Go.Proofs.Ytggodagdfldndaa.Q.L

namespace Go.Proofs.Ytggodagdfldndaa.Q.L
open Go.RowKit Go.Proofs.YtggodagdfldndaaW.PrintWords Go.Proofs.YtggodagdfldndaaW.PrintLast Go.Proofs.YtggodagdfldndaaW.PrintMore
attribute [local go_sem] max2_int min2_int max_two min_two max_three min_three max_four min_four   -- for this text's walks alone
set_option linter.unusedVariables false
set_option linter.unusedSimpArgs false

-- BY HAND: function 31 (quote_Get)

/-! ### stringslite_HasPrefix: function 76 -/
def stringslite_HasPrefix.f (a0 : ByteArray) (a1 : ByteArray) : Option (Bool) := if (a0.size : Int) ≥ (a1.size : Int) then (if 0 ≤ (a1.size : Int) then (if (a1.size : Int) ≤ (a0.size : Int) then (some ((a0.extract 0 ((a1.size : Int) : Int).toNat).toList == a1.toList)) else (none)) else (none)) else (some false)
set_option maxHeartbeats 8000000 in
set_option maxRecDepth 100000 in
theorem stringslite_HasPrefix.calls (a0 : ByteArray) (a1 : ByteArray) (r : Bool) (w : World) (h : stringslite_HasPrefix.f a0 a1 = some r) :
    Calls Try.prog 76 #[.string a0, .string a1] w fun e w' => e = .returned (.bool r) ∧ Drawn0 w w' := by
  have H : (if (a0.size : Int) ≥ (a1.size : Int) then (if 0 ≤ (a1.size : Int) then (if (a1.size : Int) ≤ (a0.size : Int) then (some ((a0.extract 0 ((a1.size : Int) : Int).toNat).toList == a1.toList)) else (none)) else (none)) else (some false)) = some r := h
  clear h
  by_cases c3 : (a0.size : Int) ≥ (a1.size : Int)
  · rw [if_pos c3] at H
    have c3b0 : decide ((a1.size : Int) ≤ (a0.size : Int)) = true := decide_eq_true c3
    have c3b1 : decide (a1.size ≤ a0.size) = true := decide_eq_true (Int.ofNat_le.mp c3)
    clear c3
    by_cases c4 : 0 ≤ (a1.size : Int)
    · rw [if_pos c4] at H
      have c4b0 := eq_true c4
      have c4b1 : decide (0 ≤ (a1.size : Int)) = true := decide_eq_true c4
      clear c4
      by_cases c5 : (a1.size : Int) ≤ (a0.size : Int)
      · rw [if_pos c5] at H
        have c5b0 := eq_true c5
        have c5b1 : decide ((a1.size : Int) ≤ (a0.size : Int)) = true := decide_eq_true c5
        clear c5
        obtain rfl := Option.some.inj H
        go_enter Try.func76, Try.ntmps76
        go_wp2
        go_ret
        exact ⟨by first | rfl | (simp; done) | (simp [*]; done), by repeat (first | exact Drawn0.refl _ | apply Drawn0.step)⟩
      · rw [if_neg c5] at H
        exact absurd H (by simp)
    · rw [if_neg c4] at H
      exact absurd H (by simp)
  · rw [if_neg c3] at H
    have c3b0 : decide ((a1.size : Int) ≤ (a0.size : Int)) = false := decide_eq_false c3
    have c3b1 : decide (a1.size ≤ a0.size) = false := decide_eq_false (fun h => c3 (Int.ofNat_le.mpr h))
    clear c3
    obtain rfl := Option.some.inj H
    go_enter Try.func76, Try.ntmps76
    go_wp2
    go_ret
    exact ⟨by first | rfl | (simp; done) | (simp [*]; done), by repeat (first | exact Drawn0.refl _ | apply Drawn0.step)⟩

/-! ### strings_HasPrefix: function 55 -/
def strings_HasPrefix.f (a0 : ByteArray) (a1 : ByteArray) : Option (Bool) := (stringslite_HasPrefix.f a0 a1).bind fun t101 => (some t101)
set_option maxHeartbeats 8000000 in
set_option maxRecDepth 100000 in
theorem strings_HasPrefix.calls (a0 : ByteArray) (a1 : ByteArray) (r : Bool) (w : World) (h : strings_HasPrefix.f a0 a1 = some r) :
    Calls Try.prog 55 #[.string a0, .string a1] w fun e w' => e = .returned (.bool r) ∧ Drawn0 w w' := by
  have H : ((stringslite_HasPrefix.f a0 a1).bind fun t101 => (some t101)) = some r := h
  clear h
  replace H := Option.bind_eq_some_iff.mp H
  obtain ⟨t101, A30, H⟩ := H
  replace H : (some t101) = some r := H
  have A3 := Aside0.mk A30
  clear A30
  obtain rfl := Option.some.inj H
  go_enter Try.func55, Try.ntmps55
  go_wp2_with (first | ((with_reducible refine gate_callee (f := 76) rfl ?_); refine goesL_ (some 7) rfl rfl Try.func76 (by kernel_rfl) rfl #[.string a0, .string a1] rfl (by (try simp only [List.map_toArray, List.map_cons, List.map_nil]); first | done | rfl | (simp only [List.length_drop, List.length_take]; rfl)) ?_; (with_reducible refine (stringslite_HasPrefix.calls a0 a1 t101 _ A3.out).mono ?_); rintro e w' ⟨rfl, ⟨nd, rfl⟩⟩; refine ⟨_, rfl, ?_⟩))
  go_ret
  exact ⟨by first | rfl | (simp; done) | (simp [*]; done), by repeat (first | exact Drawn0.refl _ | apply Drawn0.step)⟩

/-! ### lex_Break: function 36 -/
def lex_Break.j0 : Nat → ByteArray → Int → Bool → Option (Int)
  | 0, _, _, _ => none
  | k + 1, x0, x1, x5 => if x5 = true then (some 0) else (if 0 ≤ x1 then (if x1 < (x0.size : Int) then (if (bt x0 x1) = 10 then (some 1) else (if x1 ≤ (x0.size : Int) then ((strings_HasPrefix.f (x0.extract (x1 : Int).toNat x0.size) (⟨#[13, 10]⟩ : ByteArray)).bind fun t102 => (if t102 = true then (some 2) else (some 0))) else (none))) else (none)) else (none))
def lex_Break.f (k : Nat) (a0 : ByteArray) (a1 : Int) : Option (Int) := if a1 < 0 then (lex_Break.j0 k a0 a1 true) else (lex_Break.j0 k a0 a1 (decide (a1 ≥ (a0.size : Int))))
theorem lex_Break.mono_l : ∀ k, (∀ y0 y1 y2, LeO (lex_Break.j0 k y0 y1 y2) (lex_Break.j0 (k + 1) y0 y1 y2))
  | 0 => fun _ _ _ r h => by simp [lex_Break.j0] at h
  | k + 1 => by
    have ih0 := lex_Break.mono_l k
    · intro y0 y1 y2
      unfold lex_Break.j0
      repeat' first
      | (with_reducible exact ih0 _ _ _)
      | (with_reducible exact LeO.refl _)
      | (with_reducible exact LeO.none _)
      | (with_reducible refine LeO.ite ?_ ?_)
      | (with_reducible refine LeO.bind ?_ (fun _ => ?_))
      | exact ih0 _ _ _
      | exact LeO.none _
      | refine LeO.ite ?_ ?_
      | refine LeO.bind ?_ (fun _ => ?_)
theorem lex_Break.mono : ∀ a0 a1 k, LeO (lex_Break.f k a0 a1) (lex_Break.f (k + 1) a0 a1) := by
  intro a0 a1 k
  have ih0 := lex_Break.mono_l k
  unfold lex_Break.f
  repeat' first
      | (with_reducible exact ih0 _ _ _)
      | (with_reducible exact LeO.refl _)
      | (with_reducible exact LeO.none _)
      | (with_reducible refine LeO.ite ?_ ?_)
      | (with_reducible refine LeO.bind ?_ (fun _ => ?_))
      | exact ih0 _ _ _
      | exact LeO.none _
      | refine LeO.ite ?_ ?_
      | refine LeO.bind ?_ (fun _ => ?_)
set_option maxHeartbeats 8000000 in
set_option maxRecDepth 100000 in
theorem lex_Break.calls (k : Nat) (a0 : ByteArray) (a1 : Int) (r : Int) (w : World) (h : lex_Break.f k a0 a1 = some r) :
    Calls Try.prog 36 #[.string a0, .int .i64 a1] w fun e w' => e = .returned (.int .i64 r) ∧ Drawn0 w w' := by
  have H : (if a1 < 0 then (lex_Break.j0 k a0 a1 true) else (lex_Break.j0 k a0 a1 (decide (a1 ≥ (a0.size : Int))))) = some r := h
  clear h
  have HC3 := Aside0.mk H
  clear H
  go_enter Try.func36, Try.ntmps36
  go_upto_region 1 with (fail)
  go_cut [5] (fun v5 wc => ∃ (kq : Nat) (x5_2 : Bool), v5 = .bool x5_2 ∧ Aside0 (lex_Break.j0 kq a0 a1 x5_2 = some r) ∧ Aside0 (kq ≤ k) ∧ Drawn0 w wc)
  case first =>
    have H := HC3.out
    clear HC3
    by_cases c4 : a1 < 0
    · rw [if_pos c4] at H
      have c4b0 : decide (a1 < 0) = true := decide_eq_true c4
      clear c4
      (first | rw [c4b0] | (simp only [i64_w, i32_w]; rw [c4b0]) | skip)
      have H' := Aside0.mk H
      clear H
      go_wp2
      go_meet
      case rel => exact ⟨_, (true), (by first | rfl | (simp; done) | (simp [*]; done)), H', ⟨by first | omega | exact Nat.le_refl _⟩, by repeat (first | exact Drawn0.refl _ | apply Drawn0.step)⟩
    · rw [if_neg c4] at H
      have c4b0 : decide (a1 < 0) = false := decide_eq_false c4
      clear c4
      (first | rw [c4b0] | (simp only [i64_w, i32_w]; rw [c4b0]) | skip)
      have H' := Aside0.mk H
      clear H
      go_wp2
      go_meet
      case rel => exact ⟨_, (decide (a1 ≥ (a0.size : Int))), (by first | rfl | (simp; done) | (simp [*]; done)), H', ⟨by first | omega | exact Nat.le_refl _⟩, by repeat (first | exact Drawn0.refl _ | apply Drawn0.step)⟩
  case rest =>
    clear HC3
    try clear p2
    try clear c3
    try clear c4
    try clear c4b0
    obtain ⟨kq, x5_2, rfl, HA, HJ2, ⟨mc2, rfl⟩⟩ := hcut
    cases kq with
    | zero => exact absurd HA.out (by simp [lex_Break.j0])
    | succ kj2 =>
      have H := HA.out
      clear HA
      simp only [lex_Break.j0] at H
      by_cases c5 : x5_2 = true
      · subst c5
        have H1 : (some 0) = some r := by rw [if_pos rfl] at H; exact H
        clear H
        have H := H1
        clear H1
        obtain rfl := Option.some.inj H
        go_wp2
        go_ret
        exact ⟨by first | rfl | (simp; done) | (simp [*]; done), by repeat (first | exact Drawn0.refl _ | apply Drawn0.step)⟩
      · replace c5 := Bool.eq_false_iff.mpr c5
        subst c5
        have H1 : (if 0 ≤ a1 then (if a1 < (a0.size : Int) then (if (bt a0 a1) = 10 then (some 1) else (if a1 ≤ (a0.size : Int) then ((strings_HasPrefix.f (a0.extract (a1 : Int).toNat a0.size) (⟨#[13, 10]⟩ : ByteArray)).bind fun t102 => (if t102 = true then (some 2) else (some 0))) else (none))) else (none)) else (none)) = some r := by rw [if_neg (show ¬ (false = true) by decide)] at H; exact H
        clear H
        have H := H1
        clear H1
        by_cases c6 : 0 ≤ a1
        · rw [if_pos c6] at H
          have c6b0 : decide (0 ≤ a1) = true := decide_eq_true c6
          clear c6
          by_cases c7 : a1 < (a0.size : Int)
          · rw [if_pos c7] at H
            have c7b0 : decide (a1 < (a0.size : Int)) = true := decide_eq_true c7
            clear c7
            by_cases c9 : (bt a0 a1) = 10
            · rw [if_pos c9] at H
              have c9b0 : ((bt a0 a1) == 10) = true := beq_iff_eq.mpr c9
              have c9b1 : ((bt a0 a1) != 10) = false := bne_eq_false_iff_eq.mpr c9
              clear c9
              obtain rfl := Option.some.inj H
              have p8 : 0 ≤ (a1 : Int) := of_decide_eq_true (by first | (with_reducible assumption) | assumption)
              have q8 : a1 < (a0.size : Int) := of_decide_eq_true (by first | (with_reducible assumption) | assumption)
              have hx8 := bt_at a0 a1
              replace p8 := eq_true p8
              replace q8 := eq_true q8
              go_wp2
              go_ret
              exact ⟨by first | rfl | (simp; done) | (simp [*]; done), by repeat (first | exact Drawn0.refl _ | apply Drawn0.step)⟩
            · rw [if_neg c9] at H
              have c9b0 : ((bt a0 a1) == 10) = false := beq_eq_false_iff_ne.mpr c9
              have c9b1 : ((bt a0 a1) != 10) = true := bne_iff_ne.mpr c9
              have c10b0 := eq_true (of_decide_eq_true (by first | (with_reducible assumption) | assumption) : 0 ≤ a1)
              by_cases c11 : a1 ≤ (a0.size : Int)
              · rw [if_pos c11] at H
                have c11b0 := eq_true c11
                have c11b1 : decide (a1 ≤ (a0.size : Int)) = true := decide_eq_true c11
                clear c11
                replace H := Option.bind_eq_some_iff.mp H
                obtain ⟨t102, A120, H⟩ := H
                replace H : (if t102 = true then (some 2) else (some 0)) = some r := H
                have A12 := Aside0.mk A120
                clear A120
                by_cases c13 : t102 = true
                · subst c13
                  have H1 : (some 2) = some r := by rw [if_pos rfl] at H; exact H
                  clear H
                  have H := H1
                  clear H1
                  obtain rfl := Option.some.inj H
                  have p8 : 0 ≤ (a1 : Int) := of_decide_eq_true (by first | (with_reducible assumption) | assumption)
                  have q8 : a1 < (a0.size : Int) := of_decide_eq_true (by first | (with_reducible assumption) | assumption)
                  have hx8 := bt_at a0 a1
                  replace p8 := eq_true p8
                  replace q8 := eq_true q8
                  go_wp2_with (first | ((with_reducible refine gate_callee (f := 55) rfl ?_); refine goesL_ (some 23) rfl rfl Try.func55 (by kernel_rfl) rfl #[.string (a0.extract (a1 : Int).toNat a0.size), .string (⟨#[13, 10]⟩ : ByteArray)] rfl (by (try simp only [List.map_toArray, List.map_cons, List.map_nil]); first | done | rfl | (simp only [List.length_drop, List.length_take]; rfl)) ?_; (with_reducible refine (strings_HasPrefix.calls (a0.extract (a1 : Int).toNat a0.size) (⟨#[13, 10]⟩ : ByteArray) true _ A12.out).mono ?_); rintro e w' ⟨rfl, ⟨nd, rfl⟩⟩; refine ⟨_, rfl, ?_⟩))
                  go_ret
                  exact ⟨by first | rfl | (simp; done) | (simp [*]; done), by repeat (first | exact Drawn0.refl _ | apply Drawn0.step)⟩
                · replace c13 := Bool.eq_false_iff.mpr c13
                  subst c13
                  have H1 : (some 0) = some r := by rw [if_neg (show ¬ (false = true) by decide)] at H; exact H
                  clear H
                  have H := H1
                  clear H1
                  obtain rfl := Option.some.inj H
                  have p8 : 0 ≤ (a1 : Int) := of_decide_eq_true (by first | (with_reducible assumption) | assumption)
                  have q8 : a1 < (a0.size : Int) := of_decide_eq_true (by first | (with_reducible assumption) | assumption)
                  have hx8 := bt_at a0 a1
                  replace p8 := eq_true p8
                  replace q8 := eq_true q8
                  go_wp2_with (first | ((with_reducible refine gate_callee (f := 55) rfl ?_); refine goesL_ (some 23) rfl rfl Try.func55 (by kernel_rfl) rfl #[.string (a0.extract (a1 : Int).toNat a0.size), .string (⟨#[13, 10]⟩ : ByteArray)] rfl (by (try simp only [List.map_toArray, List.map_cons, List.map_nil]); first | done | rfl | (simp only [List.length_drop, List.length_take]; rfl)) ?_; (with_reducible refine (strings_HasPrefix.calls (a0.extract (a1 : Int).toNat a0.size) (⟨#[13, 10]⟩ : ByteArray) false _ A12.out).mono ?_); rintro e w' ⟨rfl, ⟨nd, rfl⟩⟩; refine ⟨_, rfl, ?_⟩))
                  go_ret
                  exact ⟨by first | rfl | (simp; done) | (simp [*]; done), by repeat (first | exact Drawn0.refl _ | apply Drawn0.step)⟩
              · rw [if_neg c11] at H
                exact absurd H (by simp)
          · rw [if_neg c7] at H
            exact absurd H (by simp)
        · rw [if_neg c6] at H
          exact absurd H (by simp)

/-! ### lex_end: function 59 -/
def lex_end.f (k : Nat) (a0 : ByteArray) (a1 : Int) (a2 : Int) : Option (Int × Int) := if a1 = (a0.size : Int) then (some (3, a1)) else (if 0 ≤ a1 then (if a1 < (a0.size : Int) then (if (bt a0 a1) = a2 then (some (1, wrap64 (a1 + 1))) else ((lex_Break.f k a0 a1).bind fun t103 => (if t103 > 0 then (some (2, wrap64 (a1 + t103))) else (some (0, a1))))) else (none)) else (none))
theorem lex_end.mono : ∀ a0 a1 a2 k, LeO (lex_end.f k a0 a1 a2) (lex_end.f (k + 1) a0 a1 a2) := by
  intro a0 a1 a2 k
  unfold lex_end.f
  repeat' first
      | (with_reducible exact lex_Break.mono _ _ _)
      | (with_reducible exact LeO.refl _)
      | (with_reducible exact LeO.none _)
      | (with_reducible refine LeO.ite ?_ ?_)
      | (with_reducible refine LeO.bind ?_ (fun _ => ?_))
      | exact lex_Break.mono _ _ _
      | exact LeO.none _
      | refine LeO.ite ?_ ?_
      | refine LeO.bind ?_ (fun _ => ?_)
set_option maxHeartbeats 8000000 in
set_option maxRecDepth 100000 in
theorem lex_end.calls (k : Nat) (a0 : ByteArray) (a1 : Int) (a2 : Int) (r1 : Int) (r2 : Int) (w : World) (h : lex_end.f k a0 a1 a2 = some (r1, r2)) :
    Calls Try.prog 59 #[.string a0, .int .i64 a1, .int .u8 a2] w fun e w' => e = .returned (.tuple #[.int .i64 r1, .int .i64 r2]) ∧ Drawn0 w w' := by
  have H : (if a1 = (a0.size : Int) then (some (3, a1)) else (if 0 ≤ a1 then (if a1 < (a0.size : Int) then (if (bt a0 a1) = a2 then (some (1, wrap64 (a1 + 1))) else ((lex_Break.f k a0 a1).bind fun t103 => (if t103 > 0 then (some (2, wrap64 (a1 + t103))) else (some (0, a1))))) else (none)) else (none))) = some (r1, r2) := h
  clear h
  by_cases c4 : a1 = (a0.size : Int)
  · rw [if_pos c4] at H
    have c4b0 : (a1 == (a0.size : Int)) = true := beq_iff_eq.mpr c4
    have c4b1 : (a1 != (a0.size : Int)) = false := bne_eq_false_iff_eq.mpr c4
    clear c4
    simp only [Option.some.injEq, Prod.mk.injEq] at H
    obtain ⟨rfl, rfl⟩ := H
    go_enter Try.func59, Try.ntmps59
    go_wp2
    go_ret2
    exact ⟨by first | rfl | (simp; done) | (simp [*]; done), by repeat (first | exact Drawn0.refl _ | apply Drawn0.step)⟩
  · rw [if_neg c4] at H
    have c4b0 : (a1 == (a0.size : Int)) = false := beq_eq_false_iff_ne.mpr c4
    have c4b1 : (a1 != (a0.size : Int)) = true := bne_iff_ne.mpr c4
    by_cases c5 : 0 ≤ a1
    · rw [if_pos c5] at H
      have c5b0 : decide (0 ≤ a1) = true := decide_eq_true c5
      clear c5
      by_cases c6 : a1 < (a0.size : Int)
      · rw [if_pos c6] at H
        have c6b0 : decide (a1 < (a0.size : Int)) = true := decide_eq_true c6
        clear c6
        by_cases c8 : (bt a0 a1) = a2
        · rw [if_pos c8] at H
          have c8b0 : ((bt a0 a1) == a2) = true := beq_iff_eq.mpr c8
          have c8b1 : ((bt a0 a1) != a2) = false := bne_eq_false_iff_eq.mpr c8
          clear c8
          simp only [Option.some.injEq, Prod.mk.injEq] at H
          obtain ⟨rfl, rfl⟩ := H
          have p7 : 0 ≤ (a1 : Int) := of_decide_eq_true (by first | (with_reducible assumption) | assumption)
          have q7 : a1 < (a0.size : Int) := of_decide_eq_true (by first | (with_reducible assumption) | assumption)
          have hx7 := bt_at a0 a1
          replace p7 := eq_true p7
          replace q7 := eq_true q7
          go_enter Try.func59, Try.ntmps59
          go_wp2
          go_ret2
          exact ⟨by first | rfl | (simp; done) | (simp [*]; done), by repeat (first | exact Drawn0.refl _ | apply Drawn0.step)⟩
        · rw [if_neg c8] at H
          have c8b0 : ((bt a0 a1) == a2) = false := beq_eq_false_iff_ne.mpr c8
          have c8b1 : ((bt a0 a1) != a2) = true := bne_iff_ne.mpr c8
          replace H := Option.bind_eq_some_iff.mp H
          obtain ⟨t103, A90, H⟩ := H
          replace H : (if t103 > 0 then (some (2, wrap64 (a1 + t103))) else (some (0, a1))) = some (r1, r2) := H
          have A9 := Aside0.mk A90
          clear A90
          by_cases c10 : t103 > 0
          · rw [if_pos c10] at H
            have c10b0 : decide (0 < t103) = true := decide_eq_true c10
            clear c10
            simp only [Option.some.injEq, Prod.mk.injEq] at H
            obtain ⟨rfl, rfl⟩ := H
            have p7 : 0 ≤ (a1 : Int) := of_decide_eq_true (by first | (with_reducible assumption) | assumption)
            have q7 : a1 < (a0.size : Int) := of_decide_eq_true (by first | (with_reducible assumption) | assumption)
            have hx7 := bt_at a0 a1
            replace p7 := eq_true p7
            replace q7 := eq_true q7
            go_enter Try.func59, Try.ntmps59
            go_wp2_with (first | ((with_reducible refine gate_callee (f := 36) rfl ?_); refine goesL_ (some 23) rfl rfl Try.func36 (by kernel_rfl) rfl #[.string a0, .int .i64 a1] rfl (by (try simp only [List.map_toArray, List.map_cons, List.map_nil]); first | done | rfl | (simp only [List.length_drop, List.length_take]; rfl)) ?_; (with_reducible refine (lex_Break.calls k a0 a1 t103 _ A9.out).mono ?_); rintro e w' ⟨rfl, ⟨nd, rfl⟩⟩; refine ⟨_, rfl, ?_⟩))
            go_ret2
            exact ⟨by first | rfl | (simp; done) | (simp [*]; done), by repeat (first | exact Drawn0.refl _ | apply Drawn0.step)⟩
          · rw [if_neg c10] at H
            have c10b0 : decide (0 < t103) = false := decide_eq_false c10
            clear c10
            simp only [Option.some.injEq, Prod.mk.injEq] at H
            obtain ⟨rfl, rfl⟩ := H
            have p7 : 0 ≤ (a1 : Int) := of_decide_eq_true (by first | (with_reducible assumption) | assumption)
            have q7 : a1 < (a0.size : Int) := of_decide_eq_true (by first | (with_reducible assumption) | assumption)
            have hx7 := bt_at a0 a1
            replace p7 := eq_true p7
            replace q7 := eq_true q7
            go_enter Try.func59, Try.ntmps59
            go_wp2_with (first | ((with_reducible refine gate_callee (f := 36) rfl ?_); refine goesL_ (some 23) rfl rfl Try.func36 (by kernel_rfl) rfl #[.string a0, .int .i64 a1] rfl (by (try simp only [List.map_toArray, List.map_cons, List.map_nil]); first | done | rfl | (simp only [List.length_drop, List.length_take]; rfl)) ?_; (with_reducible refine (lex_Break.calls k a0 a1 t103 _ A9.out).mono ?_); rintro e w' ⟨rfl, ⟨nd, rfl⟩⟩; refine ⟨_, rfl, ?_⟩))
            go_ret2
            exact ⟨by first | rfl | (simp; done) | (simp [*]; done), by repeat (first | exact Drawn0.refl _ | apply Drawn0.step)⟩
      · rw [if_neg c6] at H
        exact absurd H (by simp)
    · rw [if_neg c5] at H
      exact absurd H (by simp)

/-! ### lex_quoted: function 56 -/
def lex_quoted.f (k : Nat) (a0 : ByteArray) (a1 : Int) (a2 : Int) : Option (ByteArray × Int × Int × Int) := if 0 ≤ a1 then (if a1 ≤ (a0.size : Int) then ((quote_Get.f (a0.extract (a1 : Int).toNat a0.size)).bind fun bt104 => (if bt104.2.2 = 0 then ((lex_end.f k a0 (wrap64 (a1 + bt104.2.1)) a2).bind fun bt107 => (if bt107.1 = 0 then (some ((⟨#[]⟩ : ByteArray), wrap64 (a1 + bt104.2.1), 0, 5)) else (some (bt104.1, bt107.2, bt107.1, 0)))) else (some ((⟨#[]⟩ : ByteArray), a1, 0, bt104.2.2)))) else (none)) else (none)
theorem lex_quoted.mono : ∀ a0 a1 a2 k, LeO (lex_quoted.f k a0 a1 a2) (lex_quoted.f (k + 1) a0 a1 a2) := by
  intro a0 a1 a2 k
  unfold lex_quoted.f
  repeat' first
      | (with_reducible exact lex_end.mono _ _ _ _)
      | (with_reducible exact LeO.refl _)
      | (with_reducible exact LeO.none _)
      | (with_reducible refine LeO.ite ?_ ?_)
      | (with_reducible refine LeO.bind ?_ (fun _ => ?_))
      | exact lex_end.mono _ _ _ _
      | exact LeO.none _
      | refine LeO.ite ?_ ?_
      | refine LeO.bind ?_ (fun _ => ?_)
set_option maxHeartbeats 8000000 in
set_option maxRecDepth 100000 in
theorem lex_quoted.calls (k : Nat) (a0 : ByteArray) (a1 : Int) (a2 : Int) (r1 : ByteArray) (r2 : Int) (r3 : Int) (r4 : Int) (w : World) (h : lex_quoted.f k a0 a1 a2 = some (r1, r2, r3, r4)) :
    Calls Try.prog 56 #[.string a0, .int .i64 a1, .int .u8 a2] w fun e w' => e = .returned (.tuple #[.string r1, .int .i64 r2, .int .i64 r3, .int .i64 r4]) ∧ Below w.heap.size w w' := by
  have HB := Aside0.mk (Below.refl w.heap.size w)
  have H : (if 0 ≤ a1 then (if a1 ≤ (a0.size : Int) then ((quote_Get.f (a0.extract (a1 : Int).toNat a0.size)).bind fun bt104 => (if bt104.2.2 = 0 then ((lex_end.f k a0 (wrap64 (a1 + bt104.2.1)) a2).bind fun bt107 => (if bt107.1 = 0 then (some ((⟨#[]⟩ : ByteArray), wrap64 (a1 + bt104.2.1), 0, 5)) else (some (bt104.1, bt107.2, bt107.1, 0)))) else (some ((⟨#[]⟩ : ByteArray), a1, 0, bt104.2.2)))) else (none)) else (none)) = some (r1, r2, r3, r4) := h
  clear h
  by_cases c4 : 0 ≤ a1
  · rw [if_pos c4] at H
    have c4b0 := eq_true c4
    have c4b1 : decide (0 ≤ a1) = true := decide_eq_true c4
    clear c4
    by_cases c5 : a1 ≤ (a0.size : Int)
    · rw [if_pos c5] at H
      have c5b0 := eq_true c5
      have c5b1 : decide (a1 ≤ (a0.size : Int)) = true := decide_eq_true c5
      clear c5
      replace H := Option.bind_eq_some_iff.mp H
      obtain ⟨⟨t104, t105, t106⟩, A60, H⟩ := H
      replace H : (if t106 = 0 then ((lex_end.f k a0 (wrap64 (a1 + t105)) a2).bind fun bt107 => (if bt107.1 = 0 then (some ((⟨#[]⟩ : ByteArray), wrap64 (a1 + t105), 0, 5)) else (some (t104, bt107.2, bt107.1, 0)))) else (some ((⟨#[]⟩ : ByteArray), a1, 0, t106))) = some (r1, r2, r3, r4) := H
      have A6 := Aside0.mk A60
      clear A60
      by_cases c7 : t106 = 0
      · rw [if_pos c7] at H
        have c7b0 : (t106 == 0) = true := beq_iff_eq.mpr c7
        have c7b1 : (t106 != 0) = false := bne_eq_false_iff_eq.mpr c7
        clear c7
        replace H := Option.bind_eq_some_iff.mp H
        obtain ⟨⟨t107, t108⟩, A80, H⟩ := H
        replace H : (if t107 = 0 then (some ((⟨#[]⟩ : ByteArray), wrap64 (a1 + t105), 0, 5)) else (some (t104, t108, t107, 0))) = some (r1, r2, r3, r4) := H
        have A8 := Aside0.mk A80
        clear A80
        by_cases c9 : t107 = 0
        · rw [if_pos c9] at H
          have c9b0 : (t107 == 0) = true := beq_iff_eq.mpr c9
          have c9b1 : (t107 != 0) = false := bne_eq_false_iff_eq.mpr c9
          clear c9
          simp only [Option.some.injEq, Prod.mk.injEq] at H
          obtain ⟨rfl, rfl, rfl, rfl⟩ := H
          go_enter Try.func56, Try.ntmps56
          go_wp2_with (first | ((with_reducible refine gate_callee (f := 31) rfl ?_); refine goesL_ (some 19) rfl rfl Try.func31 (by kernel_rfl) rfl #[.string (a0.extract (a1 : Int).toNat a0.size)] rfl (by (try simp only [List.map_toArray, List.map_cons, List.map_nil]); first | done | rfl | (simp only [List.length_drop, List.length_take]; rfl)) ?_; (with_reducible refine (quote_Get.calls (a0.extract (a1 : Int).toNat a0.size) t104 t105 t106 _ A6.out).mono ?_); rintro e w10 ⟨rfl, hb⟩; refine ⟨_, rfl, ?_⟩; have n0_ := Aside0.mk (below_step (by repeat (first | (with_reducible first | exact HB.out | apply below_alloc | apply pw_below_drewN | apply below_drew1) | exact HB.out)) hb); clear HB; have HB := n0_; clear n0_; (try clear hb); (try clear hb2); (try clear hk); (try clear hi)) | ((with_reducible refine gate_callee (f := 59) rfl ?_); refine goesL_ (some 33) rfl rfl Try.func59 (by kernel_rfl) rfl #[.string a0, .int .i64 (wrap64 (a1 + t105)), .int .u8 a2] rfl (by (try simp only [List.map_toArray, List.map_cons, List.map_nil]); first | done | rfl | (simp only [List.length_drop, List.length_take]; rfl)) ?_; (with_reducible refine (lex_end.calls k a0 (wrap64 (a1 + t105)) a2 t107 t108 _ A8.out).mono ?_); rintro e w' ⟨rfl, ⟨nd, rfl⟩⟩; refine ⟨_, rfl, ?_⟩))
          refine bodyPost_ret (results_list (rs := [.tmp 6, .tmp 7, .tmp 8, .tmp 9]) rfl (by simp) (.tmp (.tmp (.tmp (.tmp .nil))))) rfl ?_
          exact ⟨by first | rfl | (simp [errW_none, errW_some] <;> rfl) | (simp [*, errW_none, errW_some] <;> rfl), by repeat (first | (with_reducible first | exact HB.out | apply below_alloc | apply pw_below_drewN | apply below_drew1) | exact HB.out)⟩
        · rw [if_neg c9] at H
          have c9b0 : (t107 == 0) = false := beq_eq_false_iff_ne.mpr c9
          have c9b1 : (t107 != 0) = true := bne_iff_ne.mpr c9
          simp only [Option.some.injEq, Prod.mk.injEq] at H
          obtain ⟨rfl, rfl, rfl, rfl⟩ := H
          go_enter Try.func56, Try.ntmps56
          go_wp2_with (first | ((with_reducible refine gate_callee (f := 31) rfl ?_); refine goesL_ (some 19) rfl rfl Try.func31 (by kernel_rfl) rfl #[.string (a0.extract (a1 : Int).toNat a0.size)] rfl (by (try simp only [List.map_toArray, List.map_cons, List.map_nil]); first | done | rfl | (simp only [List.length_drop, List.length_take]; rfl)) ?_; (with_reducible refine (quote_Get.calls (a0.extract (a1 : Int).toNat a0.size) t104 t105 t106 _ A6.out).mono ?_); rintro e w11 ⟨rfl, hb⟩; refine ⟨_, rfl, ?_⟩; have n0_ := Aside0.mk (below_step (by repeat (first | (with_reducible first | exact HB.out | apply below_alloc | apply pw_below_drewN | apply below_drew1) | exact HB.out)) hb); clear HB; have HB := n0_; clear n0_; (try clear hb); (try clear hb2); (try clear hk); (try clear hi)) | ((with_reducible refine gate_callee (f := 59) rfl ?_); refine goesL_ (some 33) rfl rfl Try.func59 (by kernel_rfl) rfl #[.string a0, .int .i64 (wrap64 (a1 + t105)), .int .u8 a2] rfl (by (try simp only [List.map_toArray, List.map_cons, List.map_nil]); first | done | rfl | (simp only [List.length_drop, List.length_take]; rfl)) ?_; (with_reducible refine (lex_end.calls k a0 (wrap64 (a1 + t105)) a2 t107 t108 _ A8.out).mono ?_); rintro e w' ⟨rfl, ⟨nd, rfl⟩⟩; refine ⟨_, rfl, ?_⟩))
          refine bodyPost_ret (results_list (rs := [.tmp 6, .tmp 7, .tmp 8, .tmp 9]) rfl (by simp) (.tmp (.tmp (.tmp (.tmp .nil))))) rfl ?_
          exact ⟨by first | rfl | (simp [errW_none, errW_some] <;> rfl) | (simp [*, errW_none, errW_some] <;> rfl), by repeat (first | (with_reducible first | exact HB.out | apply below_alloc | apply pw_below_drewN | apply below_drew1) | exact HB.out)⟩
      · rw [if_neg c7] at H
        have c7b0 : (t106 == 0) = false := beq_eq_false_iff_ne.mpr c7
        have c7b1 : (t106 != 0) = true := bne_iff_ne.mpr c7
        simp only [Option.some.injEq, Prod.mk.injEq] at H
        obtain ⟨rfl, rfl, rfl, rfl⟩ := H
        go_enter Try.func56, Try.ntmps56
        go_wp2_with (first | ((with_reducible refine gate_callee (f := 31) rfl ?_); refine goesL_ (some 19) rfl rfl Try.func31 (by kernel_rfl) rfl #[.string (a0.extract (a1 : Int).toNat a0.size)] rfl (by (try simp only [List.map_toArray, List.map_cons, List.map_nil]); first | done | rfl | (simp only [List.length_drop, List.length_take]; rfl)) ?_; (with_reducible refine (quote_Get.calls (a0.extract (a1 : Int).toNat a0.size) t104 t105 t106 _ A6.out).mono ?_); rintro e w12 ⟨rfl, hb⟩; refine ⟨_, rfl, ?_⟩; have n0_ := Aside0.mk (below_step (by repeat (first | (with_reducible first | exact HB.out | apply below_alloc | apply pw_below_drewN | apply below_drew1) | exact HB.out)) hb); clear HB; have HB := n0_; clear n0_; (try clear hb); (try clear hb2); (try clear hk); (try clear hi)))
        refine bodyPost_ret (results_list (rs := [.tmp 6, .tmp 7, .tmp 8, .tmp 9]) rfl (by simp) (.tmp (.tmp (.tmp (.tmp .nil))))) rfl ?_
        exact ⟨by first | rfl | (simp [errW_none, errW_some] <;> rfl) | (simp [*, errW_none, errW_some] <;> rfl), by repeat (first | (with_reducible first | exact HB.out | apply below_alloc | apply pw_below_drewN | apply below_drew1) | exact HB.out)⟩
    · rw [if_neg c5] at H
      exact absurd H (by simp)
  · rw [if_neg c4] at H
    exact absurd H (by simp)

-- BY HAND: function 23 (quote_Put)

-- BY HAND: function 77 (strings_Join)

/-! ### lex_record_write: function 61 -/
def lex_record_write.l0 : Nat → Int → List ByteArray → List ByteArray → Int → Int → Option (ByteArray)
  | 0, _, _, _, _, _ => none
  | k + 1, x1, x5, x11, x12, x13 => if x13 < x12 then (if 0 ≤ x13 then (if x13 < (x11.length : Int) then ((quote_Put.f k (rdOf ByteArray.empty x11 x13) x1).bind fun t113 => (if x13 < (x5.length : Int) then (lex_record_write.l0 k x1 (x5.set (x13 : Int).toNat t113) x11 x12 (wrap64 (x13 + 1))) else (none))) else (none)) else (none)) else ((strings_Join.f x5 (strOfNums (([x1] : List Int)))).bind fun t118 => (some t118))
def lex_record_write.f (k : Nat) (l0 : List ByteArray) (a1 : Int) : Option (ByteArray) := if 0 ≤ (l0.length : Int) then (if ((l0.length : Int) : Int).toNat ≤ 17592186044416 then (lex_record_write.l0 k a1 (List.replicate ((l0.length : Int) : Int).toNat (⟨#[]⟩ : ByteArray)) l0 (l0.length : Int) 0) else (none)) else (none)
theorem lex_record_write.mono_l : ∀ k, (∀ y0 y1 y2 y3 y4, LeO (lex_record_write.l0 k y0 y1 y2 y3 y4) (lex_record_write.l0 (k + 1) y0 y1 y2 y3 y4))
  | 0 => fun _ _ _ _ _ r h => by simp [lex_record_write.l0] at h
  | k + 1 => by
    have ih0 := lex_record_write.mono_l k
    · intro y0 y1 y2 y3 y4
      unfold lex_record_write.l0
      repeat' first
      | (with_reducible exact ih0 _ _ _ _ _)
      | (with_reducible exact quote_Put.mono _ _ _)
      | (with_reducible exact LeO.refl _)
      | (with_reducible exact LeO.none _)
      | (with_reducible refine LeO.ite ?_ ?_)
      | (with_reducible refine LeO.bind ?_ (fun _ => ?_))
      | exact ih0 _ _ _ _ _
      | exact quote_Put.mono _ _ _
      | exact LeO.none _
      | refine LeO.ite ?_ ?_
      | refine LeO.bind ?_ (fun _ => ?_)
theorem lex_record_write.mono : ∀ a0 a1 k, LeO (lex_record_write.f k a0 a1) (lex_record_write.f (k + 1) a0 a1) := by
  intro a0 a1 k
  have ih0 := lex_record_write.mono_l k
  unfold lex_record_write.f
  repeat' first
      | (with_reducible exact ih0 _ _ _ _ _)
      | (with_reducible exact quote_Put.mono _ _ _)
      | (with_reducible exact LeO.refl _)
      | (with_reducible exact LeO.none _)
      | (with_reducible refine LeO.ite ?_ ?_)
      | (with_reducible refine LeO.bind ?_ (fun _ => ?_))
      | exact ih0 _ _ _ _ _
      | exact quote_Put.mono _ _ _
      | exact LeO.none _
      | refine LeO.ite ?_ ?_
      | refine LeO.bind ?_ (fun _ => ?_)
set_option maxHeartbeats 8000000 in
set_option maxRecDepth 100000 in
theorem lex_record_write.calls (k : Nat) (A0 : Option Addr) (c0 : Nat) (l0 : List ByteArray) (a1 : Int) (r : ByteArray) (w : World) (hr0 : Kd.C Kd.string w A0 l0.length l0) (hc0 : l0.length ≤ c0) (h : lex_record_write.f k l0 a1 = some r) :
    Calls Try.prog 61 #[.slice A0 l0.length c0, .int .u8 a1] w fun e w' => e = .returned (.string r) ∧ Below w.heap.size w w' := by
  have HR0 := Aside0.mk hr0
  have HC0 := Aside0.mk hc0
  clear hr0 hc0
  have HB := Aside0.mk (Below.refl w.heap.size w)
  have H : (if 0 ≤ (l0.length : Int) then (if ((l0.length : Int) : Int).toNat ≤ 17592186044416 then (lex_record_write.l0 k a1 (List.replicate ((l0.length : Int) : Int).toNat (⟨#[]⟩ : ByteArray)) l0 (l0.length : Int) 0) else (none)) else (none)) = some r := h
  clear h
  by_cases c3 : 0 ≤ (l0.length : Int)
  · rw [if_pos c3] at H
    have c3b0 := eq_true c3
    have c3b1 : decide (0 ≤ (l0.length : Int)) = true := decide_eq_true c3
    clear c3
    by_cases c4 : ((l0.length : Int) : Int).toNat ≤ 17592186044416
    · rw [if_pos c4] at H
      have c4b0 := eq_true c4
      have c4b1 : decide (((l0.length : Int) : Int).toNat ≤ 17592186044416) = true := decide_eq_true c4
      clear c4
      obtain ⟨y109, hy109⟩ : ∃ y_ : List ByteArray, y_ = (List.replicate ((l0.length : Int) : Int).toNat (⟨#[]⟩ : ByteArray)) := ⟨_, rfl⟩
      replace H : (lex_record_write.l0 k a1 y109 l0 (l0.length : Int) 0) = some r := by first | (rw [hy109]; with_reducible exact H) | (have H2_ := (Option.bind_some _ _).symm.trans H; rw [hy109]; with_reducible exact H2_) | (have H2_ := (Option.bind_some _ _).symm.trans H; with_reducible exact H2_) | with_reducible exact H | (rw [hy109]; exact H) | exact H
      have Ny109 := Aside0.mk hy109
      clear hy109
      have H' := Aside0.mk H
      clear H
      go_enter Try.func61, Try.ntmps61
      go_wp2_with (first | ((with_reducible refine gate_dst (N := 10) rfl ?_); refine Kd.R_make Kd.string _ 9 rfl (N := 10) rfl 38 _ _ rfl (l0.length : Int) rfl rfl Try.underlying38 (.string ⟨#[]⟩) 16 info9 rfl (by decide) (by omega) (⟨#[]⟩ : ByteArray) (ok := fun _ => True) (okp := fun _ => True) rfl (fun _ hk => hk) trivial (of_decide_eq_true (by first | (with_reducible assumption) | assumption)) (Nat.le_trans (Nat.mul_le_mul_right _ (of_decide_eq_true (by first | (with_reducible assumption) | assumption) : (l0.length : Int).toNat ≤ 17592186044416)) (by omega)) (Below.refl _ _) (Nat.le_refl _) ?_; intro v110 w5 ho6 hb hg_ hnew_; clear hg_ hnew_; (first | rw [← Ny109.out] at ho6 | (simp only [Int.reduceToNat] at ho6; rw [← Ny109.out] at ho6)); have n0_ := Aside0.mk (Kd.R_lower ho6 (below_size (by repeat (first | (with_reducible first | exact HB.out | apply below_alloc | apply pw_below_drewN | apply below_drew1) | exact HB.out)))); have n1_ := Aside0.mk (below_step (by repeat (first | (with_reducible first | exact HB.out | apply below_alloc | apply pw_below_drewN | apply below_drew1) | exact HB.out)) hb); clear HB; have HO111 := n0_; have HB := n1_; clear n0_ n1_; clear hb ho6))
      go_loopg [13] k (fun kq v13 w' => ∃ (x5_1 : List ByteArray) (x13_1 : Int), v13 = .int .i64 x13_1 ∧ Aside0 (lex_record_write.l0 kq a1 x5_1 l0 (l0.length : Int) x13_1 = some r) ∧ Aside0 (kq ≤ k) ∧ Aside0 (Kd.R Kd.string 9 w' w.heap.size (fun _ => True) v110 x5_1) ∧ Aside0 (Below w.heap.size w w'))
      case atStart => exact ⟨(y109), (0), (by first | rfl | (simp; done) | (simp [*]; done)), H', ⟨Nat.le_refl _⟩, ⟨by (with_reducible repeat (first | apply Kd.R_alloc | apply Kd.R_drewN | apply Kd.R_drew)); exact HO111.out⟩, ⟨by repeat (first | (with_reducible first | exact HB.out | apply below_alloc | apply pw_below_drewN | apply below_drew1) | exact HB.out)⟩⟩
      case round =>
        clear H'
        try clear p2
        try clear c3
        try clear c3b0
        try clear c3b1
        try clear c4
        try clear c4b0
        try clear c4b1
        try clear c6
        obtain ⟨x5_1, x13_1, rfl, HA, HK1, HO_5, HB⟩ := hrel
        cases gk with
        | zero => exact absurd HA.out (by simp [lex_record_write.l0])
        | succ k1 =>
          have H := HA.out
          clear HA
          simp only [lex_record_write.l0] at H
          by_cases c7 : x13_1 < (l0.length : Int)
          · rw [if_pos c7] at H
            have c7b0 : decide (x13_1 < (l0.length : Int)) = true := decide_eq_true c7
            clear c7
            by_cases c8 : 0 ≤ x13_1
            · rw [if_pos c8] at H
              have c8b0 : decide (0 ≤ x13_1) = true := decide_eq_true c8
              clear c8
              by_cases c9 : x13_1 < (l0.length : Int)
              · rw [if_pos c9] at H
                have c9b0 : decide (x13_1 < (l0.length : Int)) = true := decide_eq_true c9
                clear c9
                replace H := Option.bind_eq_some_iff.mp H
                obtain ⟨t113, A100, H⟩ := H
                replace H : (if x13_1 < (x5_1.length : Int) then (lex_record_write.l0 k1 a1 (x5_1.set (x13_1 : Int).toNat t113) l0 (l0.length : Int) (wrap64 (x13_1 + 1))) else (none)) = some r := H
                have A10 := Aside0.mk A100
                clear A100
                by_cases c11 : x13_1 < (x5_1.length : Int)
                · rw [if_pos c11] at H
                  have c11b0 : decide (x13_1 < (x5_1.length : Int)) = true := decide_eq_true c11
                  clear c11
                  obtain ⟨y114, hy114⟩ : ∃ y_ : List ByteArray, y_ = (x5_1.set (x13_1 : Int).toNat t113) := ⟨_, rfl⟩
                  replace H : (lex_record_write.l0 k1 a1 y114 l0 (l0.length : Int) (wrap64 (x13_1 + 1))) = some r := by first | (rw [hy114]; with_reducible exact H) | (have H2_ := (Option.bind_some _ _).symm.trans H; rw [hy114]; with_reducible exact H2_) | (have H2_ := (Option.bind_some _ _).symm.trans H; with_reducible exact H2_) | with_reducible exact H | (rw [hy114]; exact H) | exact H
                  have Ny114 := Aside0.mk hy114
                  clear hy114
                  have H' := Aside0.mk H
                  clear H
                  have p112 : 0 ≤ (x13_1 : Int) := of_decide_eq_true (by first | (with_reducible assumption) | assumption)
                  have q112 : x13_1 < (l0.length : Int) := of_decide_eq_true (by first | (with_reducible assumption) | assumption)
                  obtain ⟨ad112, e112, hx112_0⟩ := Kd.at_string HR0.out x13_1 p112 q112
                  cases e112
                  replace hx112_0 := (HB.out.cell (World.block_lt_of_cell? w _ hx112_0)).trans hx112_0
                  replace p112 := eq_true p112
                  replace q112 := eq_true q112
                  go_wp2_with (first | ((with_reducible refine gate_callee (f := 23) rfl ?_); refine goesL_ (some 22) rfl rfl Try.func23 (by kernel_rfl) rfl #[.string (rdOf ByteArray.empty l0 x13_1), .int .u8 a1] rfl (by (try simp only [List.map_toArray, List.map_cons, List.map_nil]); first | done | rfl | (simp only [List.length_drop, List.length_take]; rfl)) ?_; (with_reducible refine (quote_Put.calls k1 (rdOf ByteArray.empty l0 x13_1) a1 t113 _ A10.out).mono ?_); rintro e w13 ⟨rfl, hb⟩; refine ⟨_, rfl, ?_⟩; have n0_ := Aside0.mk (Kd.R_below (by (with_reducible repeat (first | apply Kd.R_alloc | apply Kd.R_drewN | apply Kd.R_drew)); exact HO_5.out) hb); have n1_ := Aside0.mk (below_step (by repeat (first | (with_reducible first | exact HB.out | apply below_alloc | apply pw_below_drewN | apply below_drew1) | exact HB.out)) hb); clear HO_5; clear HB; have HO_5 := n0_; have HB := n1_; clear n0_ n1_; (try clear hb); (try clear hb2); (try clear hk); (try clear hi); have p12 : 0 ≤ (x13_1 : Int) := of_decide_eq_true (by first | (with_reducible assumption) | assumption); have q12 : (x13_1 : Int) < ((x5_1.length : Int) : Int) := of_decide_eq_true (by first | (with_reducible assumption) | assumption); obtain ⟨go12, co12, eo12, gb12, gl12, cl12, HG12⟩ := Kd.R_form HO_5.out (by omega); (first | cases eo12 | (injection eo12 with ea_ en_ ec_; (first | subst ea_ | (injection ea_ with ea_; subst ea_)); subst ec_; clear en_)); have GB12 := Aside0.mk gb12; have GG12 := Aside0.mk HG12; clear gb12 gl12 HG12; obtain ⟨hx12_0, hf12_0⟩ := Kd.R_celln (⟨#[]⟩ : ByteArray) HO_5.out (x13_1 : Int) p12 q12; replace p12 := eq_true p12; replace q12 := eq_true q12; obtain ⟨hy14_, hz14_⟩ := Kd.R_celln (⟨#[]⟩ : ByteArray) HO_5.out (x13_1 : Int) (of_decide_eq_true (by first | (with_reducible assumption) | assumption)) (of_decide_eq_true (by first | (with_reducible assumption) | assumption)); have HP14 := Kd.R_putg HO_5.out (x13_1 : Int) t113) | ((with_reducible refine gate_store (t := 9) (p := 23) rfl ?_); refine store_event (t := 9) (p := 23) (v := ?vo_w15) (w1 := (w13.setCell ⟨go12, (x13_1 : Int).toNat, none⟩ (.string t113))) ?hg ?ho ?hn ?hr ?_; (case ho => rfl); (case hg => rfl); (case hn => rfl); (case hr => first | (go_simp; done) | (go_simp; rfl)); intro w15 hw; have hg : w13.grownBy w15 (some go12) := (by rw [hw]; exact HP14.2); have hp_ : Kd.R Kd.string 9 w15 w.heap.size (fun _ => True) (.slice (some ⟨go12, 0, none⟩) x5_1.length co12) y114 := (by rw [hw, Ny114.out]; exact HP14.1); clear HP14; have n0_ := Aside0.mk (hp_); have n1_ := Aside0.mk ((by rw [hw]; exact below_set (HB.out) GB12.out : Below w.heap.size w w15)); clear HO_5; clear HB; have HO_5 := n0_; have HB := n1_; clear n0_ n1_; clear hg hw hp_))
                  go_roundg k1
                  case measure => have := HK1.out; omega
                  case rel => exact ⟨(y114), (wrap64 (x13_1 + 1)), (by first | rfl | (simp; done) | (simp [*]; done)), H', ⟨by have := HK1.out; omega⟩, ⟨by (with_reducible repeat (first | apply Kd.R_alloc | apply Kd.R_drewN | apply Kd.R_drew)); exact HO_5.out⟩, ⟨by repeat (first | (with_reducible first | exact HB.out | apply below_alloc | apply pw_below_drewN | apply below_drew1) | exact HB.out)⟩⟩
                · rw [if_neg c11] at H
                  exact absurd H (by simp)
              · rw [if_neg c9] at H
                exact absurd H (by simp)
            · rw [if_neg c8] at H
              exact absurd H (by simp)
          · rw [if_neg c7] at H
            have c7b0 : decide (x13_1 < (l0.length : Int)) = false := decide_eq_false c7
            clear c7
            obtain ⟨y115, hy115⟩ : ∃ y_ : List Int, y_ = (([a1] : List Int)) := ⟨_, rfl⟩
            replace H : ((strings_Join.f x5_1 (strOfNums y115)).bind fun t118 => (some t118)) = some r := by first | (rw [hy115]; with_reducible exact H) | (have H2_ := (Option.bind_some _ _).symm.trans H; rw [hy115]; with_reducible exact H2_) | (have H2_ := (Option.bind_some _ _).symm.trans H; with_reducible exact H2_) | with_reducible exact H | (rw [hy115]; exact H) | exact H
            have Ny115 := Aside0.mk hy115
            clear hy115
            replace H := Option.bind_eq_some_iff.mp H
            obtain ⟨t118, A160, H⟩ := H
            replace H : (some t118) = some r := H
            have A16 := Aside0.mk A160
            clear A160
            obtain rfl := Option.some.inj H
            go_wp2_with (first | ((with_reducible refine gate_dst (N := 27) rfl ?_); refine Kd.R_lit (Kd.int .u8) _ 5 ?hg (N := 27) ?hd (xs := ([a1] : List Int)) (inner := [.int .u8 a1]) (ok := fun _ => True) (okp := fun _ => True) ?hr ?hp (fun _ hk => hk) trivial (Below.refl _ _) (Nat.le_refl _) (by simp) ?_; (case hd => rfl); (case hg => rfl); (case hr => first | (go_simp; done) | (go_simp; rfl)); (case hp => exact (Reps.one (show Kd.M (Kd.int .u8) _ _ _ a1 [.int .u8 a1] from rfl) (Reps.none _ _))); intro v116 w17 ho18 hb hg_ hnew_; clear hg_ hnew_; (first | rw [← Ny115.out] at ho18 | (simp only [Int.reduceToNat] at ho18; rw [← Ny115.out] at ho18)); have n0_ := Aside0.mk (Kd.R_below (by (with_reducible repeat (first | apply Kd.R_alloc | apply Kd.R_drewN | apply Kd.R_drew)); exact HO_5.out) hb); have n1_ := Aside0.mk (Kd.R_lower ho18 (below_size (by repeat (first | (with_reducible first | exact HB.out | apply below_alloc | apply pw_below_drewN | apply below_drew1) | exact HB.out)))); have n2_ := Aside0.mk (below_step (by repeat (first | (with_reducible first | exact HB.out | apply below_alloc | apply pw_below_drewN | apply below_drew1) | exact HB.out)) hb); clear HO_5; clear HB; have HO_5 := n0_; have HO117 := n1_; have HB := n2_; clear n0_ n1_ n2_; clear hb ho18; have hcv19 := own_string (P := Try.prog) Try.underlying54 Try.underlying5 Try.underlying9 (Kd.own_of_R HO117.out); obtain ⟨Ao20, co20, eo20⟩ := Kd.R_slice HO_5.out; subst eo20) | ((with_reducible refine gate_callee (f := 77) rfl ?_); refine goesL_ (some 29) rfl rfl Try.func77 (by kernel_rfl) rfl #[.slice Ao20 x5_1.length co20, .string (strOfNums y115)] rfl (by (try simp only [List.map_toArray, List.map_cons, List.map_nil]); first | done | rfl | (simp only [List.length_drop, List.length_take]; rfl)) ?_; (with_reducible refine (strings_Join.calls _ _ x5_1 (strOfNums y115) t118 _ ?side1 ?side2 A16.out).mono ?_); (case side1 => repeat (first | exact (Kd.R_reads' HO_5.out).2.2 | (with_reducible refine Kd.C_alloc ?_ _) | (with_reducible refine Kd.C_drewN ?_ _) | (with_reducible refine Kd.C_drew ?_))); (case side2 => exact (Kd.R_reads' HO_5.out).2.1); rintro e w21 ⟨rfl, hb⟩; refine ⟨_, rfl, ?_⟩; have n0_ := Aside0.mk (Kd.R_below (by (with_reducible repeat (first | apply Kd.R_alloc | apply Kd.R_drewN | apply Kd.R_drew)); exact HO_5.out) hb); have n1_ := Aside0.mk (Kd.R_below (by (with_reducible repeat (first | apply Kd.R_alloc | apply Kd.R_drewN | apply Kd.R_drew)); exact HO117.out) hb); have n2_ := Aside0.mk (below_step (by repeat (first | (with_reducible first | exact HB.out | apply below_alloc | apply pw_below_drewN | apply below_drew1) | exact HB.out)) hb); clear HO_5; clear HO117; clear HB; have HO_5 := n0_; have HO117 := n1_; have HB := n2_; clear n0_ n1_ n2_; (try clear hb); (try clear hb2); (try clear hk); (try clear hi)))
            go_ret
            exact ⟨by first | rfl | (simp [errW_none, errW_some] <;> rfl) | (simp [*, errW_none, errW_some] <;> rfl), by repeat (first | (with_reducible first | exact HB.out | apply below_alloc | apply pw_below_drewN | apply below_drew1) | exact HB.out)⟩
    · rw [if_neg c4] at H
      exact absurd H (by simp)
  · rw [if_neg c3] at H
    exact absurd H (by simp)

-- BY HAND: function 28 (tartanref01_Good)

-- BY HAND: function 32 (tartanref01_Get)

/-! ### tartanref02_Break: function 37 -/
def tartanref02_Break.j0 : Nat → ByteArray → Int → Bool → Option (Int)
  | 0, _, _, _ => none
  | k + 1, x0, x1, x12 => if x12 = true then (some 0) else (if 0 ≤ x1 then (if x1 < (x0.size : Int) then (if (bt x0 x1) = 10 then (some 1) else (if (bt x0 x1) = 13 then (if (wrap64 (x1 + 1)) < (x0.size : Int) then (if 0 ≤ (wrap64 (x1 + 1)) then (if (bt x0 (wrap64 (x1 + 1))) = 10 then (some 2) else (some 0)) else (none)) else (some 0)) else (some 0))) else (none)) else (none))
def tartanref02_Break.f (k : Nat) (a0 : ByteArray) (a1 : Int) : Option (Int) := if a1 < 0 then (tartanref02_Break.j0 k a0 a1 true) else (tartanref02_Break.j0 k a0 a1 (decide (a1 ≥ (a0.size : Int))))
theorem tartanref02_Break.mono_l : ∀ k, (∀ y0 y1 y2, LeO (tartanref02_Break.j0 k y0 y1 y2) (tartanref02_Break.j0 (k + 1) y0 y1 y2))
  | 0 => fun _ _ _ r h => by simp [tartanref02_Break.j0] at h
  | k + 1 => by
    have ih0 := tartanref02_Break.mono_l k
    · intro y0 y1 y2
      unfold tartanref02_Break.j0
      repeat' first
      | (with_reducible exact ih0 _ _ _)
      | (with_reducible exact LeO.refl _)
      | (with_reducible exact LeO.none _)
      | (with_reducible refine LeO.ite ?_ ?_)
      | (with_reducible refine LeO.bind ?_ (fun _ => ?_))
      | exact ih0 _ _ _
      | exact LeO.none _
      | refine LeO.ite ?_ ?_
      | refine LeO.bind ?_ (fun _ => ?_)
theorem tartanref02_Break.mono : ∀ a0 a1 k, LeO (tartanref02_Break.f k a0 a1) (tartanref02_Break.f (k + 1) a0 a1) := by
  intro a0 a1 k
  have ih0 := tartanref02_Break.mono_l k
  unfold tartanref02_Break.f
  repeat' first
      | (with_reducible exact ih0 _ _ _)
      | (with_reducible exact LeO.refl _)
      | (with_reducible exact LeO.none _)
      | (with_reducible refine LeO.ite ?_ ?_)
      | (with_reducible refine LeO.bind ?_ (fun _ => ?_))
      | exact ih0 _ _ _
      | exact LeO.none _
      | refine LeO.ite ?_ ?_
      | refine LeO.bind ?_ (fun _ => ?_)
set_option maxHeartbeats 8000000 in
set_option maxRecDepth 100000 in
theorem tartanref02_Break.calls (k : Nat) (a0 : ByteArray) (a1 : Int) (r : Int) (w : World) (h : tartanref02_Break.f k a0 a1 = some r) :
    Calls Try.prog 37 #[.string a0, .int .i64 a1] w fun e w' => e = .returned (.int .i64 r) ∧ Drawn0 w w' := by
  have H : (if a1 < 0 then (tartanref02_Break.j0 k a0 a1 true) else (tartanref02_Break.j0 k a0 a1 (decide (a1 ≥ (a0.size : Int))))) = some r := h
  clear h
  have HC3 := Aside0.mk H
  clear H
  go_enter Try.func37, Try.ntmps37
  go_upto_region 1 with (fail)
  go_cut [12] (fun v12 wc => ∃ (kq : Nat) (x12_2 : Bool), v12 = .bool x12_2 ∧ Aside0 (tartanref02_Break.j0 kq a0 a1 x12_2 = some r) ∧ Aside0 (kq ≤ k) ∧ Drawn0 w wc)
  case first =>
    have H := HC3.out
    clear HC3
    by_cases c4 : a1 < 0
    · rw [if_pos c4] at H
      have c4b0 : decide (a1 < 0) = true := decide_eq_true c4
      clear c4
      (first | rw [c4b0] | (simp only [i64_w, i32_w]; rw [c4b0]) | skip)
      have H' := Aside0.mk H
      clear H
      go_wp2
      go_meet
      case rel => exact ⟨_, (true), (by first | rfl | (simp; done) | (simp [*]; done)), H', ⟨by first | omega | exact Nat.le_refl _⟩, by repeat (first | exact Drawn0.refl _ | apply Drawn0.step)⟩
    · rw [if_neg c4] at H
      have c4b0 : decide (a1 < 0) = false := decide_eq_false c4
      clear c4
      (first | rw [c4b0] | (simp only [i64_w, i32_w]; rw [c4b0]) | skip)
      have H' := Aside0.mk H
      clear H
      go_wp2
      go_meet
      case rel => exact ⟨_, (decide (a1 ≥ (a0.size : Int))), (by first | rfl | (simp; done) | (simp [*]; done)), H', ⟨by first | omega | exact Nat.le_refl _⟩, by repeat (first | exact Drawn0.refl _ | apply Drawn0.step)⟩
  case rest =>
    clear HC3
    try clear p2
    try clear c3
    try clear c4
    try clear c4b0
    obtain ⟨kq, x12_2, rfl, HA, HJ2, ⟨mc2, rfl⟩⟩ := hcut
    cases kq with
    | zero => exact absurd HA.out (by simp [tartanref02_Break.j0])
    | succ kj2 =>
      have H := HA.out
      clear HA
      simp only [tartanref02_Break.j0] at H
      by_cases c5 : x12_2 = true
      · subst c5
        have H1 : (some 0) = some r := by rw [if_pos rfl] at H; exact H
        clear H
        have H := H1
        clear H1
        obtain rfl := Option.some.inj H
        go_wp2
        go_ret
        exact ⟨by first | rfl | (simp; done) | (simp [*]; done), by repeat (first | exact Drawn0.refl _ | apply Drawn0.step)⟩
      · replace c5 := Bool.eq_false_iff.mpr c5
        subst c5
        have H1 : (if 0 ≤ a1 then (if a1 < (a0.size : Int) then (if (bt a0 a1) = 10 then (some 1) else (if (bt a0 a1) = 13 then (if (wrap64 (a1 + 1)) < (a0.size : Int) then (if 0 ≤ (wrap64 (a1 + 1)) then (if (bt a0 (wrap64 (a1 + 1))) = 10 then (some 2) else (some 0)) else (none)) else (some 0)) else (some 0))) else (none)) else (none)) = some r := by rw [if_neg (show ¬ (false = true) by decide)] at H; exact H
        clear H
        have H := H1
        clear H1
        by_cases c6 : 0 ≤ a1
        · rw [if_pos c6] at H
          have c6b0 : decide (0 ≤ a1) = true := decide_eq_true c6
          clear c6
          by_cases c7 : a1 < (a0.size : Int)
          · rw [if_pos c7] at H
            have c7b0 : decide (a1 < (a0.size : Int)) = true := decide_eq_true c7
            clear c7
            by_cases c9 : (bt a0 a1) = 10
            · rw [if_pos c9] at H
              have c9b0 : ((bt a0 a1) == 10) = true := beq_iff_eq.mpr c9
              have c9b1 : ((bt a0 a1) != 10) = false := bne_eq_false_iff_eq.mpr c9
              clear c9
              obtain rfl := Option.some.inj H
              have p8 : 0 ≤ (a1 : Int) := of_decide_eq_true (by first | (with_reducible assumption) | assumption)
              have q8 : a1 < (a0.size : Int) := of_decide_eq_true (by first | (with_reducible assumption) | assumption)
              have hx8 := bt_at a0 a1
              replace p8 := eq_true p8
              replace q8 := eq_true q8
              go_wp2
              go_ret
              exact ⟨by first | rfl | (simp; done) | (simp [*]; done), by repeat (first | exact Drawn0.refl _ | apply Drawn0.step)⟩
            · rw [if_neg c9] at H
              have c9b0 : ((bt a0 a1) == 10) = false := beq_eq_false_iff_ne.mpr c9
              have c9b1 : ((bt a0 a1) != 10) = true := bne_iff_ne.mpr c9
              by_cases c11 : (bt a0 a1) = 13
              · rw [if_pos c11] at H
                have c11b0 : ((bt a0 a1) == 13) = true := beq_iff_eq.mpr c11
                have c11b1 : ((bt a0 a1) != 13) = false := bne_eq_false_iff_eq.mpr c11
                clear c11
                by_cases c12 : (wrap64 (a1 + 1)) < (a0.size : Int)
                · rw [if_pos c12] at H
                  have c12b0 : decide ((wrap64 (a1 + 1)) < (a0.size : Int)) = true := decide_eq_true c12
                  clear c12
                  obtain ⟨ji13, hji13⟩ : ∃ j_ : Int, (wrap64 (a1 + 1)) = j_ := ⟨_, rfl⟩
                  replace H : (if 0 ≤ (ji13) then (if (bt a0 (ji13)) = 10 then (some 2) else (some 0)) else (none)) = some r := by first | (rw [hji13] at H; exact H) | (simp only [hji13] at H ⊢; exact H)
                  (try rw [hji13] at c12b0)
                  have hji13w : (IntKind.i64.wrap (a1 + 1)) = ji13 := (i64_w _).trans hji13
                  by_cases c14 : 0 ≤ (ji13)
                  · rw [if_pos c14] at H
                    have c14b0 : decide (0 ≤ (ji13)) = true := decide_eq_true c14
                    clear c14
                    by_cases c16 : (bt a0 (ji13)) = 10
                    · rw [if_pos c16] at H
                      have c16b0 : ((bt a0 (ji13)) == 10) = true := beq_iff_eq.mpr c16
                      have c16b1 : ((bt a0 (ji13)) != 10) = false := bne_eq_false_iff_eq.mpr c16
                      clear c16
                      obtain rfl := Option.some.inj H
                      have p8 : 0 ≤ (a1 : Int) := of_decide_eq_true (by first | (with_reducible assumption) | assumption)
                      have q8 : a1 < (a0.size : Int) := of_decide_eq_true (by first | (with_reducible assumption) | assumption)
                      have hx8 := bt_at a0 a1
                      replace p8 := eq_true p8
                      replace q8 := eq_true q8
                      have p10 : 0 ≤ (a1 : Int) := of_decide_eq_true (by first | (with_reducible assumption) | assumption)
                      have q10 : a1 < (a0.size : Int) := of_decide_eq_true (by first | (with_reducible assumption) | assumption)
                      have hx10 := bt_at a0 a1
                      replace p10 := eq_true p10
                      replace q10 := eq_true q10
                      have p15 : 0 ≤ ((ji13) : Int) := of_decide_eq_true (by first | (with_reducible assumption) | assumption)
                      have q15 : (ji13) < (a0.size : Int) := of_decide_eq_true (by first | (with_reducible assumption) | assumption)
                      have hx15 := bt_at a0 (ji13)
                      replace p15 := eq_true p15
                      replace q15 := eq_true q15
                      go_wp2
                      go_ret
                      exact ⟨by first | rfl | (simp; done) | (simp only [← hji13] <;> (first | rfl | simp)) | (simp [*]; done), by repeat (first | exact Drawn0.refl _ | apply Drawn0.step)⟩
                    · rw [if_neg c16] at H
                      have c16b0 : ((bt a0 (ji13)) == 10) = false := beq_eq_false_iff_ne.mpr c16
                      have c16b1 : ((bt a0 (ji13)) != 10) = true := bne_iff_ne.mpr c16
                      obtain rfl := Option.some.inj H
                      have p8 : 0 ≤ (a1 : Int) := of_decide_eq_true (by first | (with_reducible assumption) | assumption)
                      have q8 : a1 < (a0.size : Int) := of_decide_eq_true (by first | (with_reducible assumption) | assumption)
                      have hx8 := bt_at a0 a1
                      replace p8 := eq_true p8
                      replace q8 := eq_true q8
                      have p10 : 0 ≤ (a1 : Int) := of_decide_eq_true (by first | (with_reducible assumption) | assumption)
                      have q10 : a1 < (a0.size : Int) := of_decide_eq_true (by first | (with_reducible assumption) | assumption)
                      have hx10 := bt_at a0 a1
                      replace p10 := eq_true p10
                      replace q10 := eq_true q10
                      have p15 : 0 ≤ ((ji13) : Int) := of_decide_eq_true (by first | (with_reducible assumption) | assumption)
                      have q15 : (ji13) < (a0.size : Int) := of_decide_eq_true (by first | (with_reducible assumption) | assumption)
                      have hx15 := bt_at a0 (ji13)
                      replace p15 := eq_true p15
                      replace q15 := eq_true q15
                      go_wp2
                      go_ret
                      exact ⟨by first | rfl | (simp; done) | (simp only [← hji13] <;> (first | rfl | simp)) | (simp [*]; done), by repeat (first | exact Drawn0.refl _ | apply Drawn0.step)⟩
                  · rw [if_neg c14] at H
                    exact absurd H (by simp)
                · rw [if_neg c12] at H
                  have c12b0 : decide ((wrap64 (a1 + 1)) < (a0.size : Int)) = false := decide_eq_false c12
                  clear c12
                  obtain rfl := Option.some.inj H
                  have p8 : 0 ≤ (a1 : Int) := of_decide_eq_true (by first | (with_reducible assumption) | assumption)
                  have q8 : a1 < (a0.size : Int) := of_decide_eq_true (by first | (with_reducible assumption) | assumption)
                  have hx8 := bt_at a0 a1
                  replace p8 := eq_true p8
                  replace q8 := eq_true q8
                  have p10 : 0 ≤ (a1 : Int) := of_decide_eq_true (by first | (with_reducible assumption) | assumption)
                  have q10 : a1 < (a0.size : Int) := of_decide_eq_true (by first | (with_reducible assumption) | assumption)
                  have hx10 := bt_at a0 a1
                  replace p10 := eq_true p10
                  replace q10 := eq_true q10
                  go_wp2
                  go_ret
                  exact ⟨by first | rfl | (simp; done) | (simp [*]; done), by repeat (first | exact Drawn0.refl _ | apply Drawn0.step)⟩
              · rw [if_neg c11] at H
                have c11b0 : ((bt a0 a1) == 13) = false := beq_eq_false_iff_ne.mpr c11
                have c11b1 : ((bt a0 a1) != 13) = true := bne_iff_ne.mpr c11
                obtain rfl := Option.some.inj H
                have p8 : 0 ≤ (a1 : Int) := of_decide_eq_true (by first | (with_reducible assumption) | assumption)
                have q8 : a1 < (a0.size : Int) := of_decide_eq_true (by first | (with_reducible assumption) | assumption)
                have hx8 := bt_at a0 a1
                replace p8 := eq_true p8
                replace q8 := eq_true q8
                have p10 : 0 ≤ (a1 : Int) := of_decide_eq_true (by first | (with_reducible assumption) | assumption)
                have q10 : a1 < (a0.size : Int) := of_decide_eq_true (by first | (with_reducible assumption) | assumption)
                have hx10 := bt_at a0 a1
                replace p10 := eq_true p10
                replace q10 := eq_true q10
                go_wp2
                go_ret
                exact ⟨by first | rfl | (simp; done) | (simp [*]; done), by repeat (first | exact Drawn0.refl _ | apply Drawn0.step)⟩
          · rw [if_neg c7] at H
            exact absurd H (by simp)
        · rw [if_neg c6] at H
          exact absurd H (by simp)

/-! ### tartanref02_ends: function 60 -/
end Go.Proofs.Ytggodagdfldndaa.Q.L

namespace Go.Proofs.Ytggodagdfldndaa.Q.L
open Go.RowKit Go.Proofs.YtggodagdfldndaaW.PrintWords Go.Proofs.YtggodagdfldndaaW.PrintLast Go.Proofs.YtggodagdfldndaaW.PrintMore
attribute [local go_sem] max2_int min2_int max_two min_two max_three min_three max_four min_four   -- for this text's walks alone
set_option linter.unusedVariables false
set_option linter.unusedSimpArgs false

/-! ### tartanref02_Field: function 35 -/
-- BY HAND: function 22 (tartanref01_Put)

/-! ### tartanref02_Write: function 47 -/
end Go.Proofs.Ytggodagdfldndaa.Q.L

namespace Go.Proofs.Ytggodagdfldndaa.Q
open Go.RowKit Go.Proofs.YtggodagdfldndaaW.PrintWords Go.Proofs.YtggodagdfldndaaW.PrintLast

theorem bt_nat (s : ByteArray) (i : Nat) (h : i < s.size) : bt s i = (s[i].toNat : Int) := (bt_at s i (by simpa using h)).symm
theorem wrap_succ {i : Nat} {n : Nat} (h : i < n) (hn : n ≤ 140737488351232) (c : Nat) (hc : c ≤ 3) : wrap64 ((i : Int) + c) = ((i + c : Nat) : Int) := by
  unfold wrap64; omega
theorem u8_int_ne {c : UInt8} (d : UInt8) (h : c ≠ d) : ¬ (c.toNat : Int) = (d.toNat : Int) := fun e => h (UInt8.toNat_inj.1 (by omega))
theorem u8_int_eq {c : UInt8} (d : UInt8) (h : c = d) : (c.toNat : Int) = (d.toNat : Int) := by rw [h]
theorem quote_Good_f (d : Int) : quote_Good.f d = some (goodI d) := by
  unfold quote_Good.f goodI
  by_cases h1 : d = 34
  · simp [h1]
  · by_cases h2 : d = 13
    · simp [h2]
    · by_cases h3 : d = 10 <;> simp [h1, h2, h3]
theorem quote_Plain_l0 (s : ByteArray) (d : Int) (hs : s.size ≤ 140737488351232) : ∀ (m k i : Nat), i + m = s.size → m < k → quote_Plain.l0 k s d (s.size : Int) i = some (plain ((toBs s).drop i) d) := by
  intro m
  induction m with
  | zero =>
    intro k i hi hk
    obtain ⟨k, rfl⟩ : ∃ q, k = q + 1 := ⟨k - 1, by omega⟩
    simp only [quote_Plain.l0]
    rw [if_neg (by omega), List.drop_eq_nil_of_le (by rw [size_toBs]; omega)]; rfl
  | succ m ih =>
    intro k i hi hk
    obtain ⟨k, rfl⟩ : ∃ q, k = q + 1 := ⟨k - 1, by omega⟩
    have hlt : i < s.size := by omega
    simp only [quote_Plain.l0]
    rw [if_pos (by omega), if_pos (by omega), if_pos (by omega), bt_nat s i hlt, drop_toBs s i hlt, quote_Good_f]
    simp only [Option.bind_some]
    have e := wrap_succ hlt hs 1 (by omega)
    rw [show ((1 : Nat) : Int) = 1 from rfl] at e
    rw [e, ih k (i + 1) (by omega) (by omega)]
    unfold plain
    rw [List.all_cons]
    by_cases h1 : (s[i].toNat : Int) = d
    · simp [h1]
    · rw [if_neg h1]
      by_cases h2 : goodI (s[i].toNat : Int) = true
      · simp [h2, h1]
      · simp [h2]
theorem quote_Plain_f (s : ByteArray) (d : Int) (hs : s.size ≤ 140737488351232) (k : Nat) (hk : s.size < k) : quote_Plain.f k s d = some (plain (toBs s) d) := by
  have := quote_Plain_l0 s d hs s.size k 0 (by omega) hk
  rwa [List.drop_zero] at this
theorem quote_Put_f (s : ByteArray) (d : Int) (hs : s.size ≤ 1048576) (k : Nat) (hk : s.size < k) : quote_Put.f k s d = some (ofBs (put (toBs s) d)) := by
  unfold quote_Put.f quote_Quoted.f put
  rw [quote_Plain_f s d (by omega) k hk]
  simp only [Option.bind_some]
  split
  · rw [ofBs_toBs]
  · simp only [if_pos hs, Option.bind_some]
theorem ref01_Good_f (d : Int) : tartanref01_Good.f d = some (goodI d) := by
  unfold tartanref01_Good.f goodI
  by_cases h1 : d = 34
  · simp [h1]
  · by_cases h2 : d = 13
    · simp [h2]
    · have e1 : (d != 34) = true := by simpa using h1
      have e2 : (d != 13) = true := by simpa using h2
      simp [h1, h2, e1, e2]
theorem quote_Get_f (s : ByteArray) (hs : s.size ≤ 1048576) : quote_Get.f s = some (ofBs (getq (toBs s)).1, ((getq (toBs s)).2.1 : Int), ((getq (toBs s)).2.2 : Int)) := by unfold quote_Get.f; rw [if_pos hs]
end Go.Proofs.Ytggodagdfldndaa.Q

namespace Go.Proofs.Ytggodagdfldndaa.Q.L
open Go.RowKit Go.Proofs.YtggodagdfldndaaW.PrintWords Go.Proofs.YtggodagdfldndaaW.PrintLast

theorem hasPrefix_f (s p : ByteArray) : strings_HasPrefix.f s p = some (decide ((toBs s).take p.size = toBs p)) := by
  unfold strings_HasPrefix.f stringslite_HasPrefix.f
  by_cases h : (s.size : Int) ≥ (p.size : Int)
  · rw [if_pos h, if_pos (by omega), if_pos (by omega), Option.bind_some]
    have e : (s.extract 0 ((p.size : Int)).toNat).toList = (toBs s).take p.size := by
      rw [toList_toBs, toBs_extract, Int.toNat_natCast, List.drop_zero]
    rw [e, toList_toBs]
    by_cases h2 : (toBs s).take p.size = toBs p <;> simp [h2]
  · rw [if_neg h, Option.bind_some]
    have : ¬ (toBs s).take p.size = toBs p := by
      intro e
      have e2 := congrArg List.length e
      rw [List.length_take, size_toBs, size_toBs] at e2
      omega
    simp [this]
theorem extract_nat (s : ByteArray) (i : Nat) : toBs (s.extract ((i : Int)).toNat s.size) = (toBs s).drop i := by
  rw [Int.toNat_natCast]; exact Lib.extract_to_end s i
theorem breakR_other (c : UInt8) (r : Bs) (h : c ≠ 10) : breakR (c :: r) = if (c :: r).take 2 = [13, 10] then 2 else 0 := by
  cases r with
  | nil => simp [breakR, h]
  | cons d r =>
    have e : ((c :: d :: r).take 2 = [13, 10]) ↔ (c = 13 ∧ d = 10) := by simp
    by_cases h2 : c = 13 ∧ d = 10
    · rw [if_pos (e.2 h2)]; simp [breakR, h, h2]
    · rw [if_neg (fun x => h2 (e.1 x))]
      simp only [breakR, if_neg h, if_neg h2]
theorem b10 {c : UInt8} : ((c.toNat : Int) = 10) ↔ c = 10 := ⟨fun h => Classical.byContradiction fun n => u8_int_ne 10 n h, fun h => u8_int_eq 10 h⟩
theorem b13 {c : UInt8} : ((c.toNat : Int) = 13) ↔ c = 13 := ⟨fun h => Classical.byContradiction fun n => u8_int_ne 13 n h, fun h => u8_int_eq 13 h⟩
theorem endR_cons (c : UInt8) (r : Bs) (d : Int) : endR (c :: r) d = if (c.toNat : Int) = d then (1, 1) else if breakR (c :: r) = 0 then (0, 0) else (2, breakR (c :: r)) := rfl
theorem lex_Break_at (s : ByteArray) (i k : Nat) (hi : i < s.size) : lex_Break.f (k + 1) s i = some ((breakR ((toBs s).drop i) : Nat) : Int) := by
  unfold lex_Break.f
  rw [if_neg (by omega), decide_eq_false (by omega)]
  simp only [lex_Break.j0]
  rw [if_neg (by decide), if_pos (by omega), if_pos (by omega), bt_nat s i hi]
  have e := drop_toBs s i hi
  by_cases hc : s[i] = 10
  · rw [if_pos (b10.2 hc), e, hc]
    cases (toBs s).drop (i + 1) <;> rfl
  · rw [if_neg (fun h => hc (b10.1 h)), if_pos (by omega), hasPrefix_f, Option.bind_some, extract_nat, e, breakR_other _ _ hc]
    have e2 : toBs (⟨#[13, 10]⟩ : ByteArray) = [13, 10] := by decide
    have e3 : (⟨#[13, 10]⟩ : ByteArray).size = 2 := rfl
    rw [e2, e3]
    by_cases h2 : List.take 2 (s[i] :: List.drop (i + 1) (toBs s)) = [13, 10]
    · rw [decide_eq_true h2, if_pos h2]; rfl
    · rw [decide_eq_false h2, if_neg h2]; rfl
theorem ref02_Break_at (s : ByteArray) (i k : Nat) (hi : i < s.size) (hs : s.size ≤ 140737488351232) : tartanref02_Break.f (k + 1) s i = some ((breakR ((toBs s).drop i) : Nat) : Int) := by
  unfold tartanref02_Break.f
  rw [if_neg (by omega), decide_eq_false (by omega)]
  simp only [tartanref02_Break.j0]
  have e1 := wrap_succ hi hs 1 (by omega)
  rw [show ((1 : Nat) : Int) = 1 from rfl] at e1
  rw [if_neg (by decide), if_pos (by omega), if_pos (by omega), bt_nat s i hi, e1]
  have e := drop_toBs s i hi
  by_cases hc : s[i] = 10
  · rw [if_pos (b10.2 hc), e, hc]
    cases (toBs s).drop (i + 1) <;> rfl
  · rw [if_neg (fun h => hc (b10.1 h)), e]
    by_cases h13 : s[i] = 13
    · rw [if_pos (b13.2 h13)]
      by_cases h2 : i + 1 < s.size
      · rw [if_pos (by omega), if_pos (by omega), bt_nat s (i + 1) h2, drop_toBs s (i + 1) h2]
        by_cases h10 : s[i + 1] = 10
        · rw [if_pos (b10.2 h10), h13, h10]; rfl
        · rw [if_neg (fun h => h10 (b10.1 h))]; simp [breakR, h10, h13]
      · rw [if_neg (by omega), List.drop_eq_nil_of_le (by rw [size_toBs]; omega), h13]; rfl
    · rw [if_neg (fun h => h13 (b13.1 h))]
      cases (toBs s).drop (i + 1) <;> simp [breakR, hc, h13]
theorem wrap_nat (a b : Nat) (h : a + b ≤ 9223372036854775807) : wrap64 ((a : Int) + (b : Int)) = ((a + b : Nat) : Int) := by unfold wrap64; omega
theorem lex_end_f (s : ByteArray) (i k : Nat) (d : Int) (hi : i ≤ s.size) (hs : s.size ≤ 140737488351232) :
    lex_end.f (k + 1) s i d = some (((endR ((toBs s).drop i) d).1 : Int), ((i + (endR ((toBs s).drop i) d).2 : Nat) : Int)) := by
  unfold lex_end.f
  by_cases h : i = s.size
  · rw [if_pos (by omega), endR_nil s d i (by omega)]; rfl
  · have hlt : i < s.size := by omega
    rw [if_neg (by omega), if_pos (by omega), if_pos (by omega), bt_nat s i hlt, lex_Break_at s i k hlt, Option.bind_some]
    have hb := breakR_le ((toBs s).drop i)
    rw [wrap_nat i _ (by omega), show wrap64 ((i : Int) + 1) = ((i + 1 : Nat) : Int) from wrap_nat i 1 (by omega)]
    rw [drop_toBs s i hlt] at hb ⊢
    rw [endR_cons]
    by_cases hd : (s[i].toNat : Int) = d
    · rw [if_pos hd, if_pos hd]; rfl
    · rw [if_neg hd, if_neg hd]
      by_cases h0 : breakR (s[i] :: (toBs s).drop (i + 1)) = 0
      · rw [if_pos h0, if_neg (by omega)]; rfl
      · rw [if_neg h0, if_pos (by omega)]; rfl
theorem getq_le (l : Bs) : (getq l).2.1 ≤ l.length := by
  by_cases h : (getq l).2.2 = 0
  · exact (getq_only l (getq l).1 (getq l).2.1 (by rw [← h])).2.1
  · rw [(getq_fault l h).2]; exact Nat.zero_le _
theorem lex_quoted_f (s : ByteArray) (i k : Nat) (d : Int) (hi : i ≤ s.size) (hs : s.size ≤ 1048576) :
    lex_quoted.f (k + 1) s i d = some (ofBs (quotedF d ((toBs s).drop i)).1, ((i + (quotedF d ((toBs s).drop i)).2.1 : Nat) : Int), ((quotedF d ((toBs s).drop i)).2.2.1 : Int), ((quotedF d ((toBs s).drop i)).2.2.2 : Int)) := by
  unfold lex_quoted.f
  rw [if_pos (by omega), if_pos (by omega), quote_Get_f _ (by rw [ByteArray.size_extract]; omega), Option.bind_some, extract_nat]
  have hn := getq_le ((toBs s).drop i)
  rw [List.length_drop, size_toBs] at hn
  unfold quotedF
  dsimp only
  by_cases h0 : (getq ((toBs s).drop i)).2.2 = 0
  · rw [if_pos (by omega), if_pos h0, wrap_nat i _ (by omega), lex_end_f s _ k d (by omega) (by omega), Option.bind_some]
    dsimp only
    have e : List.drop (getq ((toBs s).drop i)).2.1 ((toBs s).drop i) = (toBs s).drop (i + (getq ((toBs s).drop i)).2.1) := by rw [List.drop_drop]
    rw [e]
    by_cases h1 : (endR ((toBs s).drop (i + (getq ((toBs s).drop i)).2.1)) d).1 = 0
    · rw [if_pos (by omega), if_pos h1]; rfl
    · rw [if_neg (by omega), if_neg h1]; simp only [Nat.add_assoc]; rfl
  · rw [if_neg (by omega), if_neg h0]; rfl
end Go.Proofs.Ytggodagdfldndaa.Q.L

namespace Go.Proofs.Ytggodagdfldndaa.Q.L
open Go.RowKit Go.Shelf Go.Proofs.YtggodagdfldndaaW.PrintWords
set_option maxHeartbeats 1000000 in
set_option maxRecDepth 100000 in
theorem wrong_make (b : Nat) (sg e : Int) (w : World) :
    Calls Try.prog 57 #[.int .u8 sg, .int .i64 e, .pointer (some ⟨b, 0, none⟩)] w fun r w' =>
      r = .returned (.func (.func 58) #[] #[.pointer (some ⟨b, 0, none⟩), .pointer (some ⟨w.heap.size, 0, none⟩), .pointer (some ⟨w.heap.size + 1, 0, none⟩)]) ∧
      w' = (w.alloc (.cells #[.int .u8 sg] 5)).alloc (.cells #[.int .i64 e] 28) := by
  go_enter Try.func57, Try.ntmps57
  go_wp2
  go_ret
  exact ⟨rfl, rfl⟩
set_option maxHeartbeats 1000000 in
set_option maxRecDepth 100000 in
theorem look_yes (s : ByteArray) (b b1 b2 i : Nat) (sg e : Int) (w : World) (hi : i < s.size) (hm : s.size ≤ 1048576) (hc : w.cell? ⟨b, 0, none⟩ = some (.string s)) (hc1 : w.cell? ⟨b1, 0, none⟩ = some (.int .u8 sg)) (hc2 : w.cell? ⟨b2, 0, none⟩ = some (.int .i64 e))
    (h : ((s[i].toNat : Int) == sg) = true) :
    Calls Try.prog 58 #[.int .i64 i, .pointer (some ⟨b, 0, none⟩), .pointer (some ⟨b1, 0, none⟩), .pointer (some ⟨b2, 0, none⟩)] w fun r w' => r = .returned (.int .i64 e) ∧ ∃ n, w' = w.drewN n := by
  have h0 : (0 : Int) ≤ i := by omega
  have h1 : (i : Int) < (s.size : Int) := by omega
  go_enter Try.func58, Try.ntmps58
  go_wp2
  go_quiet (fail)
  go_wp2
  go_ret
  exact ⟨rfl, _, rfl⟩
set_option maxHeartbeats 1000000 in
set_option maxRecDepth 100000 in
theorem look_no (s : ByteArray) (b b1 b2 i : Nat) (sg e : Int) (w : World) (hi : i < s.size) (hm : s.size ≤ 1048576) (hc : w.cell? ⟨b, 0, none⟩ = some (.string s)) (hc1 : w.cell? ⟨b1, 0, none⟩ = some (.int .u8 sg)) (hc2 : w.cell? ⟨b2, 0, none⟩ = some (.int .i64 e))
    (h : ((s[i].toNat : Int) == sg) = false) :
    Calls Try.prog 58 #[.int .i64 i, .pointer (some ⟨b, 0, none⟩), .pointer (some ⟨b1, 0, none⟩), .pointer (some ⟨b2, 0, none⟩)] w fun r w' => r = .returned (.int .i64 0) ∧ ∃ n, w' = w.drewN n := by
  have h0 : (0 : Int) ≤ i := by omega
  have h1 : (i : Int) < (s.size : Int) := by omega
  go_enter Try.func58, Try.ntmps58
  go_wp2
  go_quiet (fail)
  go_wp2
  go_ret
  exact ⟨rfl, _, rfl⟩

/-- What the call hands back. -/
def FieldPost (s : ByteArray) (a d : Int) (w : World) (e : Ending) (w' : World) : Prop :=
  e = .returned (.tuple #[.string (ofBs (field (toBs s) a d).1), .int .i64 (field (toBs s) a d).2.1, .int .i64 (field (toBs s) a d).2.2.1, .int .i64 (field (toBs s) a d).2.2.2]) ∧ Below w.heap.size w w'
theorem fieldPost_mk {s : ByteArray} {a d : Int} {w w' : World} {c : ByteArray} {n k e : Int} (h1 : ofBs (field (toBs s) a d).1 = c) (h2 : (field (toBs s) a d).2.1 = n) (h3 : ((field (toBs s) a d).2.2.1 : Int) = k) (h4 : ((field (toBs s) a d).2.2.2 : Int) = e) (hb : Below w.heap.size w w') :
    FieldPost s a d w (.returned (.tuple #[.string c, .int .i64 n, .int .i64 k, .int .i64 e])) w' := by
  subst h1 h2 h3 h4; exact ⟨rfl, hb⟩
set_option maxHeartbeats 1000000 in
set_option maxRecDepth 100000 in
theorem field_below (s : ByteArray) (a d : Int) (w : World) (h : a < 0) : Calls Try.prog 34 #[.string s, .int .i64 a, .int .u8 d] w (FieldPost s a d w) := by
  have hf : field (toBs s) a d = ([], a, 0, 11) := by unfold field; rw [if_pos (Or.inl h)]
  have Hf := Lib.hid hf
  clear hf
  have hx : decide (a < 0) = true := decide_eq_true h
  go_enter Try.func34, Try.ntmps34
  go_wp2
  go_step3
  go_wp2
  rw [Exit.noGoto_ret]
  refine bodyPost_ret (results_list (rs := [.tmp 6, .tmp 7, .tmp 8, .tmp 9]) rfl (by simp) (.tmp (.tmp (.tmp (.tmp .nil))))) rfl ?_
  exact fieldPost_mk (by rw [Hf.out]; rfl) (by rw [Hf.out]) (by rw [Hf.out]; rfl) (by rw [Hf.out]; rfl) ((Below.refl _ _).alloc (Nat.le_refl _) _)
set_option maxHeartbeats 1000000 in
set_option maxRecDepth 100000 in
theorem field_above (s : ByteArray) (a d : Int) (w : World) (h0 : ¬ a < 0) (h : (s.size : Int) < a) : Calls Try.prog 34 #[.string s, .int .i64 a, .int .u8 d] w (FieldPost s a d w) := by
  have hf : field (toBs s) a d = ([], a, 0, 11) := by unfold field; rw [if_pos (Or.inr (by rw [size_toBs]; exact h))]
  have Hf := Lib.hid hf
  clear hf
  have hx : decide (a < 0) = false := decide_eq_false h0
  have hx2 : decide ((s.size : Int) < a) = true := decide_eq_true h
  go_enter Try.func34, Try.ntmps34
  go_wp2
  go_step3
  go_wp2
  rw [Exit.noGoto_ret]
  refine bodyPost_ret (results_list (rs := [.tmp 6, .tmp 7, .tmp 8, .tmp 9]) rfl (by simp) (.tmp (.tmp (.tmp (.tmp .nil))))) rfl ?_
  exact fieldPost_mk (by rw [Hf.out]; rfl) (by rw [Hf.out]) (by rw [Hf.out]; rfl) (by rw [Hf.out]; rfl) ((Below.refl _ _).alloc (Nat.le_refl _) _)
set_option maxHeartbeats 1000000 in
set_option maxRecDepth 100000 in
theorem field_delim (s : ByteArray) (n : Nat) (d : Int) (w : World) (hn : n ≤ s.size) (hm : s.size ≤ 1048576) (hg : goodI d = false) : Calls Try.prog 34 #[.string s, .int .i64 n, .int .u8 d] w (FieldPost s n d w) := by
  have hf : field (toBs s) n d = ([], (n : Int), 0, 2) := by unfold field; rw [if_neg (by rw [size_toBs]; omega), if_neg (by rw [hg]; decide)]
  have Hf := Lib.hid hf
  have hgf : quote_Good.f d = some false := by rw [quote_Good_f, hg]
  have Hg := Lib.hid hgf
  clear hf hgf
  have hx : decide ((n : Int) < 0) = false := decide_eq_false (by omega)
  have hx2 : decide ((s.size : Int) < n) = false := decide_eq_false (by omega)
  go_enter Try.func34, Try.ntmps34
  go_wp2
  go_step3
  go_wp2_with fail
  refine (quote_Good.calls d false _ Hg.out).mono ?_
  rintro e w' ⟨rfl, ⟨nd, rfl⟩⟩
  go_wp2
  rw [Exit.noGoto_ret]
  refine bodyPost_ret (results_list (rs := [.tmp 6, .tmp 7, .tmp 8, .tmp 9]) rfl (by simp) (.tmp (.tmp (.tmp (.tmp .nil))))) rfl ?_
  exact fieldPost_mk (by rw [Hf.out]; rfl) (by rw [Hf.out]) (by rw [Hf.out]; rfl) (by rw [Hf.out]; rfl) (by first | exact ((Below.refl _ _).alloc (Nat.le_refl _) _) | exact pw_below_drewN ((Below.refl _ _).alloc (Nat.le_refl _) _) _)
end Go.Proofs.Ytggodagdfldndaa.Q.L

namespace Go.Proofs.Ytggodagdfldndaa.Q.L
open Go.RowKit Go.Shelf Go.Proofs.YtggodagdfldndaaW.PrintWords
set_option maxHeartbeats 1000000 in
set_option maxRecDepth 100000 in
theorem field_quotes (s : ByteArray) (n : Nat) (d : Int) (w : World) (hn : n ≤ s.size) (hm : s.size ≤ 1048576) (hg : goodI d = true) (hq : ((toBs s).drop n).head? = some 34) :
    Calls Try.prog 34 #[.string s, .int .i64 n, .int .u8 d] w (FieldPost s n d w) := by
  have hf : field (toBs s) n d = ((quotedF d ((toBs s).drop n)).1, (n : Int) + (quotedF d ((toBs s).drop n)).2.1, (quotedF d ((toBs s).drop n)).2.2.1, (quotedF d ((toBs s).drop n)).2.2.2) := by
    unfold field
    rw [if_neg (by rw [size_toBs]; omega), if_pos hg, Int.toNat_natCast]
    unfold fieldR
    rw [if_pos hq]
  have Hf := Lib.hid hf
  have Hg := Lib.hid (show quote_Good.f d = some true by rw [quote_Good_f, hg])
  have Hp := Lib.hid (show strings_HasPrefix.f (s.extract n s.size) (⟨#[34]⟩ : ByteArray) = some true by
    rw [hasPrefix_f]
    have e : toBs (s.extract n s.size) = (toBs s).drop n := Lib.extract_to_end s n
    have e2 : toBs (⟨#[34]⟩ : ByteArray) = [34] := by decide
    rw [e, e2, show (⟨#[34]⟩ : ByteArray).size = 1 from rfl, decide_eq_true]
    cases hl : (toBs s).drop n with
    | nil => rw [hl] at hq; cases hq
    | cons c r => rw [hl] at hq; simp at hq; rw [hq]; rfl)
  have Hq := Lib.hid (lex_quoted_f s n 0 d hn hm)
  clear hf hq
  have hx : decide ((n : Int) < 0) = false := decide_eq_false (by omega)
  have hx2 : decide ((s.size : Int) < n) = false := decide_eq_false (by omega)
  have b1 : (0 : Int) ≤ n := by omega
  have b2 : (n : Int) ≤ (s.size : Int) := by omega
  go_enter Try.func34, Try.ntmps34
  go_wp2
  go_step3
  go_wp2_with fail
  refine (quote_Good.calls d true _ Hg.out).mono ?_
  rintro e w' ⟨rfl, ⟨nd, rfl⟩⟩
  go_wp2_with fail
  refine (strings_HasPrefix.calls _ _ true _ Hp.out).mono ?_
  rintro e w' ⟨rfl, ⟨nd2, rfl⟩⟩
  go_wp2_with fail
  refine (lex_quoted.calls 1 s n d _ _ _ _ _ Hq.out).mono ?_
  rintro e w' ⟨rfl, hb⟩
  go_wp2
  rw [Exit.noGoto_ret]
  refine bodyPost_ret (results_list (rs := [.tmp 6, .tmp 7, .tmp 8, .tmp 9]) rfl (by simp) (.tmp (.tmp (.tmp (.tmp .nil))))) rfl ?_
  exact fieldPost_mk (by rw [Hf.out]) (by rw [Hf.out]) (by rw [Hf.out]) (by rw [Hf.out]) (Below.trans (by first | exact ((Below.refl _ _).alloc (Nat.le_refl _) _) | exact pw_below_drewN ((Below.refl _ _).alloc (Nat.le_refl _) _) _) (hb.mono (by simp)))
end Go.Proofs.Ytggodagdfldndaa.Q.L

namespace Go.Proofs.Ytggodagdfldndaa.Q.L
open Go.RowKit Go.Shelf Go.Proofs.YtggodagdfldndaaW.PrintWords
/-- What the loops read: the text, the two looks. -/
structure FW (b : Nat) (s : ByteArray) (W : World) : Prop where
  cS : W.cell? ⟨b, 0, none⟩ = some (.string s)
  c1 : W.cell? ⟨b + 1, 0, none⟩ = some (.int .u8 34)
  c2 : W.cell? ⟨b + 1 + 1, 0, none⟩ = some (.int .i64 3)
  c3 : W.cell? ⟨b + 1 + 1 + 1, 0, none⟩ = some (.int .u8 13)
  c4 : W.cell? ⟨b + 1 + 1 + 1 + 1, 0, none⟩ = some (.int .i64 6)
  f0 : W.cell? ⟨b + 1 + 1 + 1 + 1 + 1, 0, none⟩ = some (.func (.func 58) #[] #[.pointer (some ⟨b, 0, none⟩), .pointer (some ⟨b + 1, 0, none⟩), .pointer (some ⟨b + 1 + 1, 0, none⟩)])
  f1 : W.cell? ⟨b + 1 + 1 + 1 + 1 + 1, 1, none⟩ = some (.func (.func 58) #[] #[.pointer (some ⟨b, 0, none⟩), .pointer (some ⟨b + 1 + 1 + 1, 0, none⟩), .pointer (some ⟨b + 1 + 1 + 1 + 1, 0, none⟩)])
theorem FW.drewN {b : Nat} {s : ByteArray} {W : World} (h : FW b s W) (n : Nat) : FW b s (W.drewN n) := ⟨h.cS, h.c1, h.c2, h.c3, h.c4, h.f0, h.f1⟩
theorem FW.start (w : World) (s : ByteArray) (n : Nat) : FW w.heap.size s ((((((w.alloc (.cells #[.string s] 9)).drewN n).alloc (.cells #[.int .u8 34] 5)).alloc (.cells #[.int .i64 3] 28)).alloc (.cells #[.int .u8 13] 5)).alloc (.cells #[.int .i64 6] 28) |>.alloc (.cells #[.func (.func 58) #[] #[.pointer (some ⟨w.heap.size, 0, none⟩), .pointer (some ⟨w.heap.size + 1, 0, none⟩), .pointer (some ⟨w.heap.size + 1 + 1, 0, none⟩)], .func (.func 58) #[] #[.pointer (some ⟨w.heap.size, 0, none⟩), .pointer (some ⟨w.heap.size + 1 + 1 + 1, 0, none⟩), .pointer (some ⟨w.heap.size + 1 + 1 + 1 + 1, 0, none⟩)]] 69)) := by
  have hn : ∀ (W : World) (o : Obj) (m : Nat), W.heap.size = m → (W.alloc o).heap[m]? = some o := fun W o m hm => by rw [← hm]; exact heap_alloc_new W o
  have ho : ∀ (W : World) (o x : Obj) (k : Nat), W.heap[k]? = some x → (W.alloc o).heap[k]? = some x := fun W o x k h => by
    rw [Lib.alloc_old W o k (Array.getElem?_eq_some_iff.1 h).1]; exact h
  have hc : ∀ (W : World) (k j : Nat) (cs : Array Value) (T : TypeId) (v : Value), W.heap[k]? = some (.cells cs T (0, 0)) → cs[j]? = some v → W.cell? ⟨k, j, none⟩ = some v := fun W k j cs T v h1 h2 => by rw [Lib.cell_of_heap h1]; exact h2
  refine ⟨hc _ _ _ _ 9 _ (ho _ _ _ _ (ho _ _ _ _ (ho _ _ _ _ (ho _ _ _ _ (ho _ _ _ _ (hn w _ _ rfl)))))) rfl,
    hc _ _ _ _ 5 _ (ho _ _ _ _ (ho _ _ _ _ (ho _ _ _ _ (ho _ _ _ _ (hn _ _ _ ?_))))) rfl,
    hc _ _ _ _ 28 _ (ho _ _ _ _ (ho _ _ _ _ (ho _ _ _ _ (hn _ _ _ ?_)))) rfl,
    hc _ _ _ _ 5 _ (ho _ _ _ _ (ho _ _ _ _ (hn _ _ _ ?_))) rfl,
    hc _ _ _ _ 28 _ (ho _ _ _ _ (hn _ _ _ ?_)) rfl,
    hc _ _ _ _ 69 _ (hn _ _ _ ?_) rfl,
    hc _ _ _ _ 69 _ (hn _ _ _ ?_) rfl⟩
  all_goals simp
theorem below_fw (w : World) (s : ByteArray) (n : Nat) {a b c d e : Obj} : Below w.heap.size w ((((((w.alloc (.cells #[.string s] 9)).drewN n).alloc a).alloc b).alloc c).alloc d |>.alloc e) :=
  (((((pw_below_drewN ((Below.refl _ w).alloc (Nat.le_refl _) _) n).alloc (by simp) _).alloc (by simp; omega) _).alloc (by simp; omega) _).alloc (by simp; omega) _).alloc (by simp; omega) _
set_option maxHeartbeats 4000000 in
set_option maxRecDepth 100000 in
theorem field_plain (s : ByteArray) (n : Nat) (d : Int) (w : World) (hn : n ≤ s.size) (hm : s.size ≤ 1048576) (hg : goodI d = true) (hq : ((toBs s).drop n).head? ≠ some 34) :
    Calls Try.prog 34 #[.string s, .int .i64 n, .int .u8 d] w (FieldPost s n d w) := by
  have hf : field (toBs s) n d = ((plainF d ((toBs s).drop n)).1, (n : Int) + (plainF d ((toBs s).drop n)).2.1, (plainF d ((toBs s).drop n)).2.2.1, (plainF d ((toBs s).drop n)).2.2.2) := by
    unfold field
    rw [if_neg (by rw [size_toBs]; omega), if_pos hg, Int.toNat_natCast]
    unfold fieldR
    rw [if_neg hq]
  have Hf := Lib.hid hf
  have Hg := Lib.hid (show quote_Good.f d = some true by rw [quote_Good_f, hg])
  have Hp := Lib.hid (show strings_HasPrefix.f (s.extract n s.size) (⟨#[34]⟩ : ByteArray) = some false by
    rw [hasPrefix_f]
    have e : toBs (s.extract n s.size) = (toBs s).drop n := Lib.extract_to_end s n
    have e2 : toBs (⟨#[34]⟩ : ByteArray) = [34] := by decide
    rw [e, e2, show (⟨#[34]⟩ : ByteArray).size = 1 from rfl, decide_eq_false]
    intro h
    cases hl : (toBs s).drop n with
    | nil => rw [hl] at h; cases h
    | cons c r => rw [hl] at h hq; simp at h; simp [h] at hq)
  clear hf hq
  have hx : decide ((n : Int) < 0) = false := decide_eq_false (by omega)
  have hx2 : decide ((s.size : Int) < n) = false := decide_eq_false (by omega)
  have b1 : (0 : Int) ≤ n := by omega
  have b2 : (n : Int) ≤ (s.size : Int) := by omega
  go_enter Try.func34, Try.ntmps34
  go_wp2
  go_step3
  go_wp2_with fail
  refine (quote_Good.calls d true _ Hg.out).mono ?_
  rintro e w' ⟨rfl, ⟨nd, rfl⟩⟩
  go_wp2_with fail
  refine (strings_HasPrefix.calls _ _ false _ Hp.out).mono ?_
  rintro e w' ⟨rfl, ⟨nd2, rfl⟩⟩
  go_wp2_with fail
  refine (wrong_make _ 34 3 _).mono ?_
  rintro e w' ⟨rfl, rfl⟩
  go_wp2_with fail
  refine (wrong_make _ 13 6 _).mono ?_
  rintro e w' ⟨rfl, rfl⟩
  go_wp2_with fail
  go_step3
  go_wp2_with fail
  go_loopw [12] (fun i wr => ∃ k : Nat, n ≤ k ∧ k ≤ s.size ∧ i = .int .i64 k ∧ FW w.heap.size s wr ∧ Below w.heap.size w wr ∧ FRel d (toBs s) n k) (fun i _ => s.size - (intOf i).toNat)
  case atStart => exact ⟨n, Nat.le_refl _, hn, rfl, FW.start w s _, below_fw w s _, fRel_start _ _ _⟩
  case round =>
    obtain ⟨k, hk1, hk2, rfl, hFW, hB, hR⟩ := hrel
    have HR := Lib.hid hR
    clear hR
    have hcS := hFW.cS
    by_cases he : (endR ((toBs s).drop k) d).1 = 0
    · have hklt : k < s.size := by
        rcases Nat.lt_or_ge k s.size with h | h
        · exact h
        · rw [endR_nil s d k h] at he; cases he
      have hend := lex_end_f s k 0 d hk2 (by omega)
      rw [he] at hend
      generalize hln : (endR ((toBs s).drop k) d).2 = ln at *
      have Hend := Lib.hid hend
      have HE := Lib.hid he
      clear hend hln he
      go_wp2_with fail
      refine (lex_end.calls 1 s k d _ _ _ Hend.out).mono ?_
      rintro e w' ⟨rfl, ⟨nd, rfl⟩⟩
      have hFW2 := hFW.drewN nd
      have hB2 := pw_below_drewN hB nd
      clear hFW hB hcS
      have hkx : (k : Int) < (s.size : Int) := by omega
      go_wp2_with fail
      obtain ⟨wo, hwo⟩ : ∃ wo : World, wo = wr := ⟨_, rfl⟩
      clear hwo
      go_loopw [67] (fun j wi => ∃ m : Nat, m ≤ 2 ∧ j = .int .i64 m ∧ FW w.heap.size s wi ∧ Below w.heap.size w wi ∧ (1 ≤ m → s[k] ≠ 34) ∧ (2 ≤ m → s[k] ≠ 13)) (fun j _ => 2 - (intOf j).toNat)
      case atStart => exact ⟨0, by omega, rfl, hFW2, hB2, by omega, by omega⟩
      case round =>
        obtain ⟨m, hm2, rfl, hFW3, hB3, hm34, hm13⟩ := hrel
        clear hFW2 hB2
        have hf0 := hFW3.f0
        have hf1 := hFW3.f1
        obtain rfl | rfl | rfl : m = 0 ∨ m = 1 ∨ m = 2 := by omega
        · by_cases hc : s[k] = 34
          · have Hfin := Lib.hid ((fRel_bad d s n k hk1 hklt HE.out HR.out).1 hc)
            have hcx : ((s[k].toNat : Int) == 34) = true := u8_eq 34 hc
            clear hc hm34 hm13
            go_wp2_with fail
            refine (look_yes s _ _ _ k 34 3 _ hklt hm hFW3.cS hFW3.c1 hFW3.c2 hcx).mono ?_
            rintro e w' ⟨rfl, ⟨q, rfl⟩⟩
            go_wp2
            rw [Exit.noGoto_ret]
            refine bodyPost_ret (results_list (rs := [.tmp 6, .tmp 7, .tmp 8, .tmp 9]) rfl (by simp) (.tmp (.tmp (.tmp (.tmp .nil))))) rfl ?_
            exact fieldPost_mk (by rw [Hf.out, Hfin.out]; rfl) (by rw [Hf.out, Hfin.out]; simp only []; omega) (by rw [Hf.out, Hfin.out]; rfl) (by rw [Hf.out, Hfin.out]; rfl) (pw_below_drewN hB3 q)
          · have hcx : ((s[k].toNat : Int) == 34) = false := u8_ne 34 hc
            have Hc := Lib.hid hc
            clear hc hm34 hm13
            go_wp2_with fail
            refine (look_no s _ _ _ k 34 3 _ hklt hm hFW3.cS hFW3.c1 hFW3.c2 hcx).mono ?_
            rintro e w' ⟨rfl, ⟨q, rfl⟩⟩
            go_wp2
            go_roundw
            case rel => exact ⟨1, by omega, rfl, hFW3.drewN q, pw_below_drewN hB3 q, fun _ => Hc.out, by omega⟩
            case measure => simp [intOf]
        · have H34 := Lib.hid (hm34 (by omega))
          clear hm34 hm13
          by_cases hc : s[k] = 13
          · have Hfin := Lib.hid ((fRel_bad d s n k hk1 hklt HE.out HR.out).2 H34.out hc)
            have hcx : ((s[k].toNat : Int) == 13) = true := u8_eq 13 hc
            clear hc
            go_wp2_with fail
            refine (look_yes s _ _ _ k 13 6 _ hklt hm hFW3.cS hFW3.c3 hFW3.c4 hcx).mono ?_
            rintro e w' ⟨rfl, ⟨q, rfl⟩⟩
            go_wp2
            rw [Exit.noGoto_ret]
            refine bodyPost_ret (results_list (rs := [.tmp 6, .tmp 7, .tmp 8, .tmp 9]) rfl (by simp) (.tmp (.tmp (.tmp (.tmp .nil))))) rfl ?_
            exact fieldPost_mk (by rw [Hf.out, Hfin.out]; rfl) (by rw [Hf.out, Hfin.out]; simp only []; omega) (by rw [Hf.out, Hfin.out]; rfl) (by rw [Hf.out, Hfin.out]; rfl) (pw_below_drewN hB3 q)
          · have hcx : ((s[k].toNat : Int) == 13) = false := u8_ne 13 hc
            have Hc := Lib.hid hc
            clear hc
            go_wp2_with fail
            refine (look_no s _ _ _ k 13 6 _ hklt hm hFW3.cS hFW3.c3 hFW3.c4 hcx).mono ?_
            rintro e w' ⟨rfl, ⟨q, rfl⟩⟩
            go_wp2
            go_roundw
            case rel => exact ⟨2, by omega, rfl, hFW3.drewN q, pw_below_drewN hB3 q, fun _ => H34.out, fun _ => Hc.out⟩
            case measure => simp [intOf]
        · have Hn := Lib.hid (fRel_next d s n k hk1 hklt HE.out (hm34 (by omega)) (hm13 (by omega)) HR.out)
          clear hm34 hm13
          go_wp2
          go_roundw
          case rel => exact ⟨k + 1, by omega, by omega, by go_num, hFW3, hB3, Hn.out⟩
          case measure => simp [intOf]; omega
    · have He := Lib.hid (fRel_end d s n k hk1 hk2 he HR.out)
      have hend := lex_end_f s k 0 d hk2 (by omega)
      generalize hkd : (endR ((toBs s).drop k) d).1 = kd at *
      generalize hln : (endR ((toBs s).drop k) d).2 = ln at *
      have Hend := Lib.hid hend
      clear hend hkd hln
      have hpos : decide ((0 : Int) < (kd : Int)) = true := by simp; omega
      go_wp2_with fail
      refine (lex_end.calls 1 s k d _ _ _ Hend.out).mono ?_
      rintro e w' ⟨rfl, ⟨nd, rfl⟩⟩
      have hcS2 := (hFW.drewN nd).cS
      have b3 : (n : Int) ≤ (k : Int) := by omega
      have b4 : (k : Int) ≤ (s.size : Int) := by omega
      go_wp2
      rw [Exit.noGoto_ret]
      refine bodyPost_ret (results_list (rs := [.tmp 6, .tmp 7, .tmp 8, .tmp 9]) rfl (by simp) (.tmp (.tmp (.tmp (.tmp .nil))))) rfl ?_
      exact fieldPost_mk (by rw [Hf.out, He.out]; exact ofBs_toBs _) (by rw [Hf.out, He.out]; simp only []; omega) (by rw [Hf.out, He.out]) (by rw [Hf.out, He.out]; rfl) (pw_below_drewN hB nd)
end Go.Proofs.Ytggodagdfldndaa.Q.L

namespace Go.Proofs.Ytggodagdfldndaa.Q.L
open Go.RowKit Go.Shelf Go.Proofs.YtggodagdfldndaaW.PrintWords Go.Proofs.YtggodagdfldndaaW.PrintLast Go.Proofs.YtggodagdfldndaaW.PrintMore
/-- lex.Field, as_ a plain function. -/
def lex_Field.f (a0 : ByteArray) (a1 : Int) (a2 : Int) : Option (ByteArray × Int × Int × Int) :=
  if a0.size ≤ 1048576 then some (ofBs (field (toBs a0) a1 a2).1, (field (toBs a0) a1 a2).2.1, ((field (toBs a0) a1 a2).2.2.1 : Int), ((field (toBs a0) a1 a2).2.2.2 : Int)) else none
theorem field_walk (s : ByteArray) (a d : Int) (w : World) (hm : s.size ≤ 1048576) : Calls Try.prog 34 #[.string s, .int .i64 a, .int .u8 d] w (FieldPost s a d w) := by
  by_cases h0 : a < 0
  · exact field_below s a d w h0
  · by_cases h1 : (s.size : Int) < a
    · exact field_above s a d w h0 h1
    · obtain ⟨n, rfl⟩ := Int.eq_ofNat_of_zero_le (show 0 ≤ a by omega)
      have hn : n ≤ s.size := by omega
      cases hg : goodI d with
      | false => exact field_delim s n d w hn hm hg
      | true =>
        by_cases hq : ((toBs s).drop n).head? = some 34
        · exact field_quotes s n d w hn hm hg hq
        · exact field_plain s n d w hn hm hg hq
theorem lex_Field.calls (a0 : ByteArray) (a1 : Int) (a2 : Int) (r1 : ByteArray) (r2 : Int) (r3 : Int) (r4 : Int) (w : World) (h : lex_Field.f a0 a1 a2 = some (r1, r2, r3, r4)) :
    Calls Try.prog 34 #[.string a0, .int .i64 a1, .int .u8 a2] w fun e w' => e = .returned (.tuple #[.string r1, .int .i64 r2, .int .i64 r3, .int .i64 r4]) ∧ Below w.heap.size w w' := by
  unfold lex_Field.f at h
  by_cases hs : a0.size ≤ 1048576
  · rw [if_pos hs] at h
    simp only [Option.some.injEq, Prod.mk.injEq] at h
    obtain ⟨rfl, rfl, rfl, rfl⟩ := h
    exact field_walk a0 a1 a2 w hs
  · rw [if_neg hs] at h; cases h
/-- lex.Write, as_ a plain function. -/
def lex_Write.f (k : Nat) (l0 : List ByteArray) (a1 : Int) (a2 : Bool) : Option ByteArray :=
  (lex_record_write.f k l0 a1).bind fun t =>
    if a2 = true then (if t.size + 2 ≤ 9223372036854775807 then some (t ++ (⟨#[13, 10]⟩ : ByteArray)) else none) else (if t.size + 1 ≤ 9223372036854775807 then some (t ++ (⟨#[10]⟩ : ByteArray)) else none)
theorem lex_Write.mono : ∀ l0 a1 a2 k, LeO (lex_Write.f k l0 a1 a2) (lex_Write.f (k + 1) l0 a1 a2) := by
  intro l0 a1 a2 k
  unfold lex_Write.f
  exact LeO.bind (lex_record_write.mono _ _ _) (fun _ => LeO.refl _)
set_option maxHeartbeats 1000000 in
set_option maxRecDepth 100000 in
theorem write_crlf (k : Nat) (A0 : Option Addr) (c0 : Nat) (l0 : List ByteArray) (a1 : Int) (t : ByteArray) (w : World) (hr0 : Kd.C Kd.string w A0 l0.length l0) (hc0 : l0.length ≤ c0) (h : lex_record_write.f k l0 a1 = some t) (hb : t.size + 2 ≤ 9223372036854775807) :
    Calls Try.prog 38 #[.slice A0 l0.length c0, .int .u8 a1, .bool true] w fun e w' => e = .returned (.string (t ++ (⟨#[13, 10]⟩ : ByteArray))) ∧ Below w.heap.size w w' := by
  have H := Lib.hid h
  have hb2 : (9223372036854775807 < t.size + 2) = False := eq_false (by omega)
  clear h
  go_enter Try.func38, Try.ntmps38
  go_wp2_with fail
  refine (lex_record_write.calls k A0 c0 l0 a1 t _ hr0 hc0 H.out).mono ?_
  rintro e w' ⟨rfl, hbel⟩
  go_wp2
  go_ret
  exact ⟨rfl, hbel⟩
set_option maxHeartbeats 1000000 in
set_option maxRecDepth 100000 in
theorem write_lf (k : Nat) (A0 : Option Addr) (c0 : Nat) (l0 : List ByteArray) (a1 : Int) (t : ByteArray) (w : World) (hr0 : Kd.C Kd.string w A0 l0.length l0) (hc0 : l0.length ≤ c0) (h : lex_record_write.f k l0 a1 = some t) (hb : t.size + 1 ≤ 9223372036854775807) :
    Calls Try.prog 38 #[.slice A0 l0.length c0, .int .u8 a1, .bool false] w fun e w' => e = .returned (.string (t ++ (⟨#[10]⟩ : ByteArray))) ∧ Below w.heap.size w w' := by
  have H := Lib.hid h
  have hb2 : (9223372036854775807 < t.size + 1) = False := eq_false (by omega)
  have hb3 : (9223372036854775806 < t.size) = False := eq_false (by omega)
  clear h
  go_enter Try.func38, Try.ntmps38
  go_wp2_with fail
  refine (lex_record_write.calls k A0 c0 l0 a1 t _ hr0 hc0 H.out).mono ?_
  rintro e w' ⟨rfl, hbel⟩
  go_wp2
  go_ret
  exact ⟨rfl, hbel⟩
theorem lex_Write.calls (k : Nat) (A0 : Option Addr) (c0 : Nat) (l0 : List ByteArray) (a1 : Int) (a2 : Bool) (r : ByteArray) (w : World) (hr0 : Kd.C Kd.string w A0 l0.length l0) (hc0 : l0.length ≤ c0) (h : lex_Write.f k l0 a1 a2 = some r) :
    Calls Try.prog 38 #[.slice A0 l0.length c0, .int .u8 a1, .bool a2] w fun e w' => e = .returned (.string r) ∧ Below w.heap.size w w' := by
  unfold lex_Write.f at h
  obtain ⟨t, ht, h⟩ := Option.bind_eq_some_iff.1 h
  cases a2 with
  | true =>
    rw [if_pos rfl] at h
    split at h
    · rename_i hb
      obtain rfl := Option.some.inj h
      exact write_crlf k A0 c0 l0 a1 t w hr0 hc0 ht hb
    · cases h
  | false =>
    rw [if_neg (by decide)] at h
    split at h
    · rename_i hb
      obtain rfl := Option.some.inj h
      exact write_lf k A0 c0 l0 a1 t w hr0 hc0 ht hb
    · cases h
end Go.Proofs.Ytggodagdfldndaa.Q.L

namespace Go.Proofs.Ytggodagdfldndaa.Q.L
open Go.RowKit Go.Shelf Go.Proofs.YtggodagdfldndaaW.PrintWords Go.Proofs.YtggodagdfldndaaW.PrintLast Go.Proofs.YtggodagdfldndaaW.PrintMore
/-- A list of strings that is read begins at a plain address. -/
theorem plain_of_C {w : World} {A : Option Addr} {l : List ByteArray} (h : Kd.C Kd.string w A l.length l) (h0 : l ≠ []) :
    ∃ b off, A = some ⟨b, off, none⟩ ∧ ∀ j, j < l.length → w.cell? ⟨b, off + j, none⟩ = some (.string (l.getD j ByteArray.empty)) := by
  have hlen : 0 < l.length := List.length_pos_iff.2 h0
  obtain ⟨ad, rfl, hcell⟩ := readsStr_cell h h0
  obtain ⟨b, off, sp⟩ := ad
  have hc := hcell 0 l[0] (by simp)
  have hh : ∃ o, w.heap[b]? = some o := by
    cases hh : w.heap[b]? with
    | none => simp [World.cell?, Addr.add, hh] at hc
    | some o => exact ⟨o, rfl⟩
  have hsp : sp = none := by
    cases sp with
    | none => rfl
    | some q =>
      exfalso
      obtain ⟨o, ho⟩ := hh
      cases o <;> simp [World.cell?, Addr.add, ho] at hc
  subst hsp
  refine ⟨b, off, rfl, fun j hj => ?_⟩
  have := hcell j l[j] (by simp [hj])
  unfold Addr.add at this
  rw [show l.getD j ByteArray.empty = l[j] by simp [hj]]
  split at this
  · rename_i e; subst e; exact this
  · exact this
theorem slices_Equal.calls (A1 : Option Addr) (c1 : Nat) (xs : List ByteArray) (A2 : Option Addr) (c2 : Nat) (ys : List ByteArray) (w : World) (h1 : Kd.C Kd.string w A1 xs.length xs) (h2 : Kd.C Kd.string w A2 ys.length ys) :
    Calls Try.prog 70 #[.slice A1 xs.length c1, .slice A2 ys.length c2] w fun e w' => e = .returned (.bool (decide (xs = ys))) ∧ Drawn0 w w' := by
  by_cases hl : xs.length = ys.length
  · by_cases h0 : xs = []
    · subst h0
      have : ys = [] := List.length_eq_zero_iff.1 hl.symm
      subst this
      refine (Try.slices_Equal_string_empty A1 A2 c1 0 c2 w (by decide)).mono ?_
      rintro e w' ⟨rfl, rfl⟩
      exact ⟨rfl, Drawn0.refl _⟩
    · have h0' : ys ≠ [] := fun e => h0 (List.length_eq_zero_iff.1 (by rw [hl, e]; rfl))
      obtain ⟨b1, o1, rfl, hc1⟩ := plain_of_C h1 h0
      obtain ⟨b2, o2, rfl, hc2⟩ := plain_of_C h2 h0'
      refine (Try.slices_Equal_string b1 o1 xs.length c1 b2 o2 ys.length c2 xs ys w (Nat.le_refl _) (Nat.le_refl _) h1.2.1 h2.2.1 hc1 hc2).mono ?_
      rintro e w' ⟨rfl, ⟨q, rfl⟩⟩
      rw [List.take_length, List.take_length]
      exact ⟨rfl, ⟨q, rfl⟩⟩
  · refine (Try.slices_Equal_string_lens A1 A2 xs.length c1 ys.length c2 w hl).mono ?_
    rintro e w' ⟨rfl, rfl⟩
    have : ¬ xs = ys := fun e => hl (by rw [e])
    rw [decide_eq_false this]
    exact ⟨rfl, Drawn0.refl _⟩
/-- A row of a list of rows that is read. -/
theorem at_row {w : World} {A : Option Addr} {l : List (List ByteArray)} (h : Kd.C (Kd.slice 9 Kd.string) w A l.length l) (k : Nat) (hk : k < l.length) :
    ∃ ad B c, A = some ad ∧ w.cell? (ad.add k) = some (.slice B (l.getD k []).length c) ∧ (l.getD k []).length ≤ c ∧ Kd.C Kd.string w B (l.getD k []).length (l.getD k []) := by
  obtain ⟨ad, cs, hA, _, hK, hcell⟩ := Kd.C_get h [] (k : Int) (by omega) (by omega)
  obtain ⟨B, c, hcs, hlc, hC⟩ := hK
  subst hcs
  have := hcell 0 _ rfl
  rw [Int.toNat_natCast] at *
  exact ⟨ad, B, c, hA, by simpa [Kd.slice] using this, hlc, hC⟩
set_option maxHeartbeats 4000000 in
set_option maxRecDepth 100000 in
theorem equalFunc_walk (A0 : Option Addr) (c0 : Nat) (l0 : List (List ByteArray)) (A1 : Option Addr) (c1 : Nat) (l1 : List (List ByteArray)) (w : World) (hr0 : Kd.C (Kd.slice 9 Kd.string) w A0 l0.length l0) (hr1 : Kd.C (Kd.slice 9 Kd.string) w A1 l1.length l1) (hl : l0.length = l1.length) :
    Calls Try.prog 69 #[.slice A0 l0.length c0, .slice A1 l1.length c1, .func (.func 70) #[] #[]] w fun e w' => e = .returned (.bool (decide (l0 = l1))) ∧ Drawn0 w w' := by
  have HR0 := Lib.hid hr0
  have HR1 := Lib.hid hr1
  have hb := hr0.2.1
  have e0 : ((l0.length : Int) != (l1.length : Int)) = false := bne_eq_false_iff_eq.2 (by omega)
  have HL := Lib.hid hl
  clear hr0 hr1 hl
  go_enter Try.func69, Try.ntmps69
  go_wp2
  go_loopw [17] (fun i wr => ∃ k : Nat, k ≤ l0.length ∧ i = .int .i64 k ∧ Drawn0 w wr ∧ l0.take k = l1.take k) (fun i _ => l0.length - (intOf i).toNat)
  case atStart => exact ⟨0, Nat.zero_le _, rfl, Drawn0.refl _, rfl⟩
  case round =>
    obtain ⟨k, hk, rfl, ⟨q, rfl⟩, hE⟩ := hrel
    have HE := Lib.hid hE
    clear hE
    rcases Nat.lt_or_ge k l0.length with hlt | hge
    · obtain ⟨ad, B, cb, rfl, hcell, hlc, hC⟩ := at_row HR0.out k hlt
      obtain ⟨ad1, B1, cb1, rfl, hcell1, hlc1, hC1⟩ := at_row HR1.out k (by have := HL.out; omega)
      have p0 : (0 : Int) ≤ (k : Int) := by omega
      have q0 : (k : Int) < (l0.length : Int) := by omega
      have q1 : (k : Int) < (l1.length : Int) := by have := HL.out; omega
      obtain ⟨X, hX⟩ : ∃ X, X = l0.getD k [] := ⟨_, rfl⟩
      obtain ⟨Y, hY⟩ : ∃ Y, Y = l1.getD k [] := ⟨_, rfl⟩
      rw [← hX] at hcell hlc hC
      rw [← hY] at hcell1 hlc1 hC1
      have HX := Lib.hid hX
      have HY := Lib.hid hY
      clear hX hY
      by_cases hkk : X = Y
      · have Hd := Lib.hid (decide_eq_true hkk)
        have HK := Lib.hid hkk
        clear hkk
        go_wp2_with fail
        refine (slices_Equal.calls B cb _ B1 cb1 _ _ (by repeat (first | exact hC | (with_reducible refine Kd.C_drewN ?_ _) | (with_reducible refine Kd.C_drew ?_))) (by repeat (first | exact hC1 | (with_reducible refine Kd.C_drewN ?_ _) | (with_reducible refine Kd.C_drew ?_)))).mono ?_
        rintro e w' ⟨rfl, ⟨nd, rfl⟩⟩
        rw [Hd.out]
        go_wp2
        go_roundw
        case rel =>
          refine ⟨k + 1, by omega, by go_num, by repeat (first | exact Drawn0.refl _ | apply Drawn0.step), ?_⟩
          have h2 : k < l1.length := by have := HL.out; omega
          have := HK.out
          rw [HX.out, HY.out] at this
          rw [List.getD_eq_getElem?_getD, List.getD_eq_getElem?_getD, List.getElem?_eq_getElem hlt, List.getElem?_eq_getElem h2] at this
          rw [List.take_add_one, List.take_add_one, HE.out, List.getElem?_eq_getElem hlt, List.getElem?_eq_getElem h2]
          simp only [Option.getD_some] at this
          rw [this]
        case measure => simp [intOf]; omega
      · have Hd := Lib.hid (decide_eq_false hkk)
        have hne : ¬ l0 = l1 := fun e => hkk (by rw [HX.out, HY.out, e])
        have Hn := Lib.hid hne
        clear hkk hne
        go_wp2_with fail
        refine (slices_Equal.calls B cb _ B1 cb1 _ _ (by repeat (first | exact hC | (with_reducible refine Kd.C_drewN ?_ _) | (with_reducible refine Kd.C_drew ?_))) (by repeat (first | exact hC1 | (with_reducible refine Kd.C_drewN ?_ _) | (with_reducible refine Kd.C_drew ?_)))).mono ?_
        rintro e w' ⟨rfl, ⟨nd, rfl⟩⟩
        rw [Hd.out]
        go_wp2
        go_ret
        exact ⟨by rw [decide_eq_false Hn.out]; rfl, by repeat (first | exact Drawn0.refl _ | apply Drawn0.step)⟩
    · have q0 : ¬ (k : Int) < (l0.length : Int) := by omega
      have he : l0 = l1 := by
        have h := HE.out
        have h1 := HL.out
        rw [List.take_of_length_le (by omega), List.take_of_length_le (by omega)] at h
        exact h
      have Hn := Lib.hid he
      clear he
      go_wp2
      go_ret
      exact ⟨by rw [decide_eq_true Hn.out]; rfl, by repeat (first | exact Drawn0.refl _ | apply Drawn0.step)⟩
set_option maxHeartbeats 4000000 in
set_option maxRecDepth 100000 in
theorem equalFunc_lens (A0 : Option Addr) (c0 : Nat) (n0 : Nat) (A1 : Option Addr) (c1 : Nat) (n1 : Nat) (w : World) (hl : n0 ≠ n1) :
    Calls Try.prog 69 #[.slice A0 n0 c0, .slice A1 n1 c1, .func (.func 70) #[] #[]] w fun e w' => e = .returned (.bool false) ∧ Drawn0 w w' := by
  have e0 : ((n0 : Int) != (n1 : Int)) = true := bne_iff_ne.2 (by omega)
  clear hl
  go_enter Try.func69, Try.ntmps69
  go_wp2
  go_ret
  exact ⟨rfl, by repeat (first | exact Drawn0.refl _ | apply Drawn0.step)⟩
/-- csv.Same, as_ a plain function. -/
def csv_Same.f (l0 : List (List ByteArray)) (l1 : List (List ByteArray)) : Option Bool := some (decide (l0 = l1))
set_option maxHeartbeats 4000000 in
set_option maxRecDepth 100000 in
theorem csv_Same.calls (A0 : Option Addr) (c0 : Nat) (l0 : List (List ByteArray)) (A1 : Option Addr) (c1 : Nat) (l1 : List (List ByteArray)) (r : Bool) (w : World) (hr0 : Kd.C (Kd.slice 9 Kd.string) w A0 l0.length l0) (hc0 : l0.length ≤ c0) (hr1 : Kd.C (Kd.slice 9 Kd.string) w A1 l1.length l1) (hc1 : l1.length ≤ c1) (h : csv_Same.f l0 l1 = some r) :
    Calls Try.prog 46 #[.slice A0 l0.length c0, .slice A1 l1.length c1] w fun e w' => e = .returned (.bool r) ∧ Drawn0 w w' := by
  unfold csv_Same.f at h
  obtain rfl := Option.some.inj h
  have key : Calls Try.prog 69 #[.slice A0 l0.length c0, .slice A1 l1.length c1, .func (.func 70) #[] #[]] w fun e w' => e = .returned (.bool (decide (l0 = l1))) ∧ Drawn0 w w' := by
    by_cases hl : l0.length = l1.length
    · exact equalFunc_walk A0 c0 l0 A1 c1 l1 w hr0 hr1 hl
    · refine (equalFunc_lens A0 c0 _ A1 c1 _ w hl).mono ?_
      rintro e w' ⟨rfl, hd⟩
      rw [decide_eq_false (fun e => hl (by rw [e]))]
      exact ⟨rfl, hd⟩
  clear hr0 hc0 hr1 hc1 h
  go_enter Try.func46, Try.ntmps46
  go_wp2_with fail
  refine key.mono ?_
  rintro e w' ⟨rfl, ⟨nd, rfl⟩⟩
  go_wp2
  go_ret
  exact ⟨rfl, by repeat (first | exact Drawn0.refl _ | apply Drawn0.step)⟩
end Go.Proofs.Ytggodagdfldndaa.Q.L

namespace Go.Proofs.Ytggodagdfldndaa.Q.L
open Go.RowKit Go.Shelf Go.Proofs.YtggodagdfldndaaW.PrintWords Go.Proofs.YtggodagdfldndaaW.PrintLast Go.Proofs.YtggodagdfldndaaW.PrintMore
set_option maxHeartbeats 1000000 in
set_option maxRecDepth 100000 in
theorem len67 (x : ByteArray) (w : World) : Calls Try.prog 67 #[.string x] w fun e w' => e = .returned (.int .i64 x.size) ∧ w' = w := by
  go_enter Try.func67, Try.ntmps67
  go_wp2
  go_ret
  exact ⟨rfl, rfl⟩
def bigger (m : Int) (x : ByteArray) : Bool := decide (m < (x.size : Int))
set_option maxHeartbeats 1000000 in
set_option maxRecDepth 100000 in
theorem test83 (x : ByteArray) (m : Int) (r : Bool) (b1 b2 : Nat) (w : World) (h1 : w.cell? ⟨b1, 0, none⟩ = some (.func (.func 67) #[] #[])) (h2 : w.cell? ⟨b2, 0, none⟩ = some (.int .i64 m)) (hr : decide (m < (x.size : Int)) = r) :
    Calls Try.prog 83 #[.string x, .pointer (some ⟨b1, 0, none⟩), .pointer (some ⟨b2, 0, none⟩)] w fun e w' => e = .returned (.bool r) ∧ ∃ n, w' = w.drewN n := by
  go_enter Try.func83, Try.ntmps83
  go_wp2
  go_quiet (first | (refine Calls.quiet_of_same (len67 x _)))
  go_wp2
  go_ret
  exact ⟨rfl, _, rfl⟩
set_option maxHeartbeats 4000000 in
set_option maxRecDepth 100000 in
theorem index87 (A : Option Addr) (c : Nat) (l : List ByteArray) (m : Int) (b1 b2 : Nat) (w : World) (hr : Kd.C Kd.string w A l.length l) (h1 : w.cell? ⟨b1, 0, none⟩ = some (.func (.func 67) #[] #[])) (h2 : w.cell? ⟨b2, 0, none⟩ = some (.int .i64 m)) :
    Calls Try.prog 87 #[.slice A l.length c, .func (.func 83) #[] #[.pointer (some ⟨b1, 0, none⟩), .pointer (some ⟨b2, 0, none⟩)]] w fun e w' => ∃ r : Int, e = .returned (.int .i64 r) ∧ decide (0 ≤ r) = l.any (bigger m) ∧ Drawn0 w w' := by
  have HR := Lib.hid hr
  have hb := hr.2.1
  clear hr
  go_enter Try.func87, Try.ntmps87
  go_wp2
  go_loopw [8] (fun i wr => ∃ k : Nat, k ≤ l.length ∧ i = .int .i64 k ∧ Drawn0 w wr ∧ (l.take k).any (bigger m) = false) (fun i _ => l.length - (intOf i).toNat)
  case atStart => exact ⟨0, Nat.zero_le _, rfl, Drawn0.refl _, rfl⟩
  case round =>
    obtain ⟨k, hk, rfl, ⟨q, rfl⟩, hE⟩ := hrel
    have HE := Lib.hid hE
    clear hE
    rcases Nat.lt_or_ge k l.length with hlt | hge
    · have p0 : (0 : Int) ≤ (k : Int) := by omega
      have q0 : (k : Int) < (l.length : Int) := by omega
      obtain ⟨ad, rfl, hcell⟩ := Kd.at_string HR.out k p0 q0
      rw [Int.toNat_natCast] at hcell
      obtain ⟨X, hX⟩ : ∃ X, X = rdOf ByteArray.empty l (k : Int) := ⟨_, rfl⟩
      rw [← hX] at hcell
      have hX2 : X = l[k] := by rw [hX]; unfold rdOf; simp [hlt]
      clear hX
      have HX := Lib.hid hX2
      clear hX2
      have hs1 : (l.take (k + 1)).any (bigger m) = bigger m X := by
        rw [List.take_add_one, List.any_append, HE.out, List.getElem?_eq_getElem hlt, HX.out]; simp
      cases hd : bigger m X with
      | true =>
        have hany : l.any (bigger m) = true := by
          rw [← List.take_append_drop (k + 1) l, List.any_append, hs1, hd]; rfl
        have Ha := Lib.hid hany
        have Hd := Lib.hid (show decide (m < (X.size : Int)) = true from hd)
        clear hs1 hd hany
        go_wp2_with fail
        refine (test83 X m true b1 b2 (w.drewN q) h1 h2 Hd.out).mono ?_
        rintro e w' ⟨rfl, ⟨nd, rfl⟩⟩
        go_wp2
        go_ret
        exact ⟨k, rfl, by rw [Ha.out, decide_eq_true (by omega)], by repeat (first | exact Drawn0.refl _ | apply Drawn0.step)⟩
      | false =>
        have Hs := Lib.hid (hs1.trans hd)
        have Hd := Lib.hid (show decide (m < (X.size : Int)) = false from hd)
        clear hs1 hd
        go_wp2_with fail
        refine (test83 X m false b1 b2 (w.drewN q) h1 h2 Hd.out).mono ?_
        rintro e w' ⟨rfl, ⟨nd, rfl⟩⟩
        go_wp2
        go_roundw
        case rel => exact ⟨k + 1, by omega, by go_num, by repeat (first | exact Drawn0.refl _ | apply Drawn0.step), Hs.out⟩
        case measure => simp [intOf]; omega
    · have q0 : ¬ (k : Int) < (l.length : Int) := by omega
      have Ha := Lib.hid (show l.any (bigger m) = false by have := HE.out; rwa [List.take_of_length_le (by omega)] at this)
      go_wp2
      go_ret
      exact ⟨-1, rfl, by rw [Ha.out]; rfl, by repeat (first | exact Drawn0.refl _ | apply Drawn0.step)⟩
set_option maxHeartbeats 1000000 in
set_option maxRecDepth 100000 in
theorem contains82 (A : Option Addr) (c : Nat) (l : List ByteArray) (m : Int) (b1 b2 : Nat) (w : World) (hr : Kd.C Kd.string w A l.length l) (h1 : w.cell? ⟨b1, 0, none⟩ = some (.func (.func 67) #[] #[])) (h2 : w.cell? ⟨b2, 0, none⟩ = some (.int .i64 m)) :
    Calls Try.prog 82 #[.slice A l.length c, .func (.func 83) #[] #[.pointer (some ⟨b1, 0, none⟩), .pointer (some ⟨b2, 0, none⟩)]] w fun e w' => e = .returned (.bool (l.any (bigger m))) ∧ Drawn0 w w' := by
  have key := index87 A c l m b1 b2 w hr h1 h2
  clear hr h1 h2
  go_enter Try.func82, Try.ntmps82
  go_wp2_with fail
  refine key.mono ?_
  rintro e w' ⟨r, rfl, hd, ⟨nd, rfl⟩⟩
  obtain ⟨x, hgx⟩ : ∃ x, x = l.any (bigger m) := ⟨_, rfl⟩
  rw [← hgx] at hd
  have HG := Lib.hid hgx
  clear hgx
  go_wp2
  go_ret
  exact ⟨by rw [← HG.out]; rfl, by repeat (first | exact Drawn0.refl _ | apply Drawn0.step)⟩
set_option maxHeartbeats 2000000 in
set_option maxRecDepth 100000 in
theorem large_walk (A : Option Addr) (c : Nat) (l : List ByteArray) (m : Int) (w : World) (hr : Kd.C Kd.string w A l.length l) :
    Calls Try.prog 66 #[.slice A l.length c, .int .i64 m, .func (.func 67) #[] #[]] w fun e w' => e = .returned (.bool (l.any (bigger m))) ∧ Below w.heap.size w w' := by
  have HR := Lib.hid hr
  clear hr
  go_enter Try.func66, Try.ntmps66
  go_wp2_with fail
  refine (contains82 A c l m (w.heap.size + 1) w.heap.size _ (by repeat (first | exact HR.out | (with_reducible refine Kd.C_alloc ?_ _))) ?_ ?_).mono ?_
  · rw [Lib.cell_of_heap (by rw [show w.heap.size + 1 = (w.alloc (Obj.cells #[Value.int IntKind.i64 m] 3)).heap.size from by simp]; exact heap_alloc_new _ _)]; rfl
  · rw [Lib.cell_of_heap (by rw [Lib.alloc_old _ _ _ (by simp)]; exact heap_alloc_new _ _)]; rfl
  · rintro e w' ⟨rfl, ⟨nd, rfl⟩⟩
    go_wp2
    go_ret
    exact ⟨rfl, pw_below_drewN (((Below.refl _ w).alloc (Nat.le_refl _) _).alloc (by simp) _) nd⟩
end Go.Proofs.Ytggodagdfldndaa.Q.L

namespace Go.Proofs.Ytggodagdfldndaa.Q.L
open Go.RowKit Go.Proofs.YtggodagdfldndaaW.PrintWords Go.Proofs.YtggodagdfldndaaW.PrintLast

/-- What lex.Field gives, in Go's numbers. -/
def outF (p : Bs × Int × Nat × Nat) : ByteArray × Int × Int × Int := (ofBs p.1, p.2.1, (p.2.2.1 : Int), (p.2.2.2 : Int))
theorem lex_Field_f (s : ByteArray) (a d : Int) (hs : s.size ≤ 1048576) : lex_Field.f s a d = some (outF (field (toBs s) a d)) := by
  unfold lex_Field.f; rw [if_pos hs]; rfl
/-! ### records -/
theorem strOfNums_one (c : UInt8) : strOfNums ([(c.toNat : Int)] : List Int) = ofBs [c] := by
  unfold strOfNums ofBs
  simp
theorem delim_byte (d : Int) (h : (Lit.int .u8 d).wf = true) : ∃ c : UInt8, (c.toNat : Int) = d := by
  have h1 : IntKind.u8.min ≤ d ∧ d ≤ IntKind.u8.max := by simpa [Lit.wf, Lit.fits] using h
  have h2 : IntKind.u8.min = 0 := rfl
  have h3 : IntKind.u8.max = 255 := rfl
  rw [h2, h3] at h1
  refine ⟨UInt8.ofNat d.toNat, ?_⟩
  simp only [UInt8.toNat_ofNat']
  omega
/-- A record's cells, as_ lists of bytes. -/
def cells (l : List ByteArray) : List Bs := l.map toBs
/-- What lex.Write writes. -/
def writeB (c : UInt8) (l : List ByteArray) (crlf : Bool) : Bs := rowR (c.toNat : Int) c (cells l) ++ brk crlf
theorem put_length (l : Bs) (d : Int) : (put l d).length ≤ 2 * l.length + 2 := by
  unfold put
  split
  · omega
  · rw [quoted_length]
    have : l.count 34 ≤ l.length := List.count_le_length
    omega
theorem rowR_length (d : Int) (c : UInt8) (n : Nat) : ∀ l : List Bs, (∀ x ∈ l, x.length ≤ n) → (rowR d c l).length ≤ l.length * (2 * n + 3)
  | [], _ => by simp [rowR, Lib.join_nil]
  | [x], h => by
    rw [rowR_one]
    have := put_length x d
    have := h x (by simp)
    simp only [List.length_cons, List.length_nil]
    omega
  | x :: y :: r, h => by
    rw [rowR_cons]
    have h1 := put_length x d
    have h2 := h x (by simp)
    have h3 := rowR_length d c n (y :: r) (fun z hz => h z (by simp only [List.mem_cons] at hz ⊢; exact Or.inr hz))
    simp only [List.length_append, List.length_cons] at h3 ⊢
    have : (r.length + 1 + 1) * (2 * n + 3) = (r.length + 1) * (2 * n + 3) + (2 * n + 3) := Nat.succ_mul _ _
    omega
theorem rdOf_nat (l : List ByteArray) (i : Nat) (h : i < l.length) : rdOf ByteArray.empty l (i : Int) = l[i] := by
  unfold rdOf
  simp [h]
def Small (l : List ByteArray) (n : Nat) : Prop := ∀ x ∈ l, x.size ≤ n
theorem record_l0 (c : UInt8) (l : List ByteArray) (hl : l.length ≤ 1000000) (n : Nat) (hn : n ≤ 1048576) (hs : Small l n) : ∀ (m k i : Nat), i + m = l.length → n + m + 1 < k →
    lex_record_write.l0 k (c.toNat : Int) ((l.take i).map (fun x => ofBs (put (toBs x) c.toNat)) ++ List.replicate m (⟨#[]⟩ : ByteArray)) l (l.length : Int) i = strings_Join.f (l.map (fun x => ofBs (put (toBs x) c.toNat))) (ofBs [c]) := by
  intro m
  induction m with
  | zero =>
    intro k i hi hk
    obtain ⟨k, rfl⟩ : ∃ q, k = q + 1 := ⟨k - 1, by omega⟩
    simp only [lex_record_write.l0]
    rw [if_neg (by omega), strOfNums_one, List.take_of_length_le (by omega), List.replicate_zero, List.append_nil]
    cases strings_Join.f (l.map (fun x => ofBs (put (toBs x) c.toNat))) (ofBs [c]) <;> rfl
  | succ m ih =>
    intro k i hi hk
    obtain ⟨k, rfl⟩ : ∃ q, k = q + 1 := ⟨k - 1, by omega⟩
    have hlt : i < l.length := by omega
    have hx : l[i].size ≤ n := hs _ (List.getElem_mem hlt)
    simp only [lex_record_write.l0]
    rw [if_pos (by omega), if_pos (by omega), if_pos (by omega), rdOf_nat l i hlt, quote_Put_f _ _ (by omega) k (by omega), Option.bind_some]
    rw [if_pos (by simp; omega), show wrap64 ((i : Int) + 1) = ((i + 1 : Nat) : Int) from wrap_nat i 1 (by omega), ← ih k (i + 1) (by omega) (by omega)]
    congr 1
    rw [Int.toNat_natCast, List.set_append_right _ _ (by simp; omega)]
    have e : i - ((l.take i).map (fun x => ofBs (put (toBs x) c.toNat))).length = 0 := by simp; omega
    rw [e, List.replicate_succ, List.set_cons_zero, List.take_add_one, List.getElem?_eq_getElem hlt, List.map_append, List.append_assoc]
    rfl
theorem joined_ofBs (l : List ByteArray) (c : UInt8) : Go.Proofs.Ytggodagdfldndaa.Q.joined (l.map (fun x => ofBs (put (toBs x) c.toNat))) (ofBs [c]) = rowR (c.toNat : Int) c (cells l) := by
  unfold Go.Proofs.Ytggodagdfldndaa.Q.joined rowR cells
  simp only [List.map_map]
  congr 1
end Go.Proofs.Ytggodagdfldndaa.Q.L
