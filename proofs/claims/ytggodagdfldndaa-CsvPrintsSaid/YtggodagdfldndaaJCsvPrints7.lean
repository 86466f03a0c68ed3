/- The law CsvPrints of the given statements: for every input it answers true, and its arguments read afterwards as before: The text of records, and whether two are alike, are just what the document says. Conditions: none but those of the given statement itself. -/
import Derived.Test.YtggodagdfldndaaJCsvPrints5
import Derived.Test.YtggodagdfldndaaJCsvPrints6
import Derived.Test.YtggodagdfldndaaJCsvPrints4
import Derived.Test.YtggodagdfldndaaJCsvPrints2
import Derived.Test.YtggodagdfldndaaRows
import Derived.ProofKit
import Derived.SliceStrings
import Derived.Deep.Slices
import Derived.WalkKit
import Derived.OpenShut
import Derived.ShutString
import Derived.ChangeOld
import Derived.Below
import Derived.SizedLaws
set_option linter.unusedVariables false
set_option linter.unusedSimpArgs false
/-! Walks of Go functions of this seat against plain Lean functions, written by a program of this session (the kit's print, with hand-proved contracts for what it does not take). Lean checks them. -/
namespace Go.Proofs.Ytggodagdfldndaa.Q.L.Z
open Go.RowKit Go.Proofs.YtggodagdfldndaaW.PrintWords Go.Proofs.YtggodagdfldndaaW.PrintLast Go.Proofs.YtggodagdfldndaaW.PrintMore
attribute [local go_sem] max2_int min2_int max_two min_two max_three min_three max_four min_four   -- for this text's walks alone
set_option linter.unusedVariables false
set_option linter.unusedSimpArgs false

/-! ### tartanref03_Print: function 45 -/
mutual
def tartanref03_Print.l0 : Nat → List (List ByteArray) → Int → Bool → Bool → ByteArray → Int → Option (ByteArray × Int)
  | 0, _, _, _, _, _, _ => none
  | k + 1, x0, x1, x2, x8, x9, x10 => if x10 < (x0.length : Int) then (if 0 ≤ x10 then (if ((rd_L1 x0 x10).length : Int) = 0 then (some ((⟨#[]⟩ : ByteArray), 1)) else (if x8 = true then (tartanref03_Print.j1 k x0 x1 x2 true x9 x10) else (tartanref03_Print.j1 k x0 x1 x2 (decide (((rd_L1 x0 x10).length : Int) > 128)) x9 x10))) else (none)) else (if x8 = true then (some ((⟨#[]⟩ : ByteArray), 7)) else (if (x9.size : Int) > 4194304 then (some ((⟨#[]⟩ : ByteArray), 7)) else (some (x9, 0))))
def tartanref03_Print.j1 : Nat → List (List ByteArray) → Int → Bool → Bool → ByteArray → Int → Option (ByteArray × Int)
  | 0, _, _, _, _, _, _ => none
  | k + 1, x0, x1, x2, x8, x9, x10 => tartanref03_Print.l1 k x0 x1 x2 x8 x9 x10 0
def tartanref03_Print.l1 : Nat → List (List ByteArray) → Int → Bool → Bool → ByteArray → Int → Int → Option (ByteArray × Int)
  | 0, _, _, _, _, _, _, _ => none
  | k + 1, x0, x1, x2, x8, x9, x10, x11 => if 0 ≤ x10 then (if x10 < (x0.length : Int) then (if x11 < ((rd_L1 x0 x10).length : Int) then (if x8 = true then (tartanref03_Print.l1 k x0 x1 x2 true x9 x10 (wrap64 (x11 + 1))) else (if 0 ≤ x11 then (tartanref03_Print.l1 k x0 x1 x2 (decide (((rdOf ByteArray.empty (rd_L1 x0 x10) x11).size : Int) > 4096)) x9 x10 (wrap64 (x11 + 1))) else (none))) else ((tartanref02_Write.f k (rd_L1 x0 x10) x1 x2).bind fun t161 => (if x9.size + t161.size ≤ 9223372036854775807 then (tartanref03_Print.l0 k x0 x1 x2 x8 (x9 ++ t161) (wrap64 (x10 + 1))) else (none)))) else (none)) else (none)
end
def tartanref03_Print.f (k : Nat) (l0 : List (List ByteArray)) (a1 : Int) (a2 : Bool) : Option (ByteArray × Int) := (tartanref01_Good.f a1).bind fun t154 => (if t154 = true then (tartanref03_Print.l0 k l0 a1 a2 (decide ((l0.length : Int) > 2048)) (⟨#[]⟩ : ByteArray) 0) else (some ((⟨#[]⟩ : ByteArray), 2)))
theorem tartanref03_Print.mono_l : ∀ k, (∀ y0 y1 y2 y3 y4 y5, LeO (tartanref03_Print.l0 k y0 y1 y2 y3 y4 y5) (tartanref03_Print.l0 (k + 1) y0 y1 y2 y3 y4 y5)) ∧ (∀ y0 y1 y2 y3 y4 y5, LeO (tartanref03_Print.j1 k y0 y1 y2 y3 y4 y5) (tartanref03_Print.j1 (k + 1) y0 y1 y2 y3 y4 y5)) ∧ (∀ y0 y1 y2 y3 y4 y5 y6, LeO (tartanref03_Print.l1 k y0 y1 y2 y3 y4 y5 y6) (tartanref03_Print.l1 (k + 1) y0 y1 y2 y3 y4 y5 y6))
  | 0 => ⟨fun _ _ _ _ _ _ r h => by simp [tartanref03_Print.l0] at h, fun _ _ _ _ _ _ r h => by simp [tartanref03_Print.j1] at h, fun _ _ _ _ _ _ _ r h => by simp [tartanref03_Print.l1] at h⟩
  | k + 1 => by
    obtain ⟨ih0, ih1, ih2⟩ := tartanref03_Print.mono_l k
    refine ⟨?_, ?_, ?_⟩
    · intro y0 y1 y2 y3 y4 y5
      unfold tartanref03_Print.l0
      repeat' first
      | (with_reducible exact ih0 _ _ _ _ _ _)
      | (with_reducible exact ih1 _ _ _ _ _ _)
      | (with_reducible exact ih2 _ _ _ _ _ _ _)
      | (with_reducible exact tartanref02_Write.mono _ _ _ _)
      | (with_reducible exact LeO.refl _)
      | (with_reducible exact LeO.none _)
      | (with_reducible refine LeO.ite ?_ ?_)
      | (with_reducible refine LeO.bind ?_ (fun _ => ?_))
      | exact ih0 _ _ _ _ _ _
      | exact ih1 _ _ _ _ _ _
      | exact ih2 _ _ _ _ _ _ _
      | exact tartanref02_Write.mono _ _ _ _
      | exact LeO.none _
      | refine LeO.ite ?_ ?_
      | refine LeO.bind ?_ (fun _ => ?_)
    · intro y0 y1 y2 y3 y4 y5
      unfold tartanref03_Print.j1
      repeat' first
      | (with_reducible exact ih0 _ _ _ _ _ _)
      | (with_reducible exact ih1 _ _ _ _ _ _)
      | (with_reducible exact ih2 _ _ _ _ _ _ _)
      | (with_reducible exact tartanref02_Write.mono _ _ _ _)
      | (with_reducible exact LeO.refl _)
      | (with_reducible exact LeO.none _)
      | (with_reducible refine LeO.ite ?_ ?_)
      | (with_reducible refine LeO.bind ?_ (fun _ => ?_))
      | exact ih0 _ _ _ _ _ _
      | exact ih1 _ _ _ _ _ _
      | exact ih2 _ _ _ _ _ _ _
      | exact tartanref02_Write.mono _ _ _ _
      | exact LeO.none _
      | refine LeO.ite ?_ ?_
      | refine LeO.bind ?_ (fun _ => ?_)
    · intro y0 y1 y2 y3 y4 y5 y6
      unfold tartanref03_Print.l1
      repeat' first
      | (with_reducible exact ih0 _ _ _ _ _ _)
      | (with_reducible exact ih1 _ _ _ _ _ _)
      | (with_reducible exact ih2 _ _ _ _ _ _ _)
      | (with_reducible exact tartanref02_Write.mono _ _ _ _)
      | (with_reducible exact LeO.refl _)
      | (with_reducible exact LeO.none _)
      | (with_reducible refine LeO.ite ?_ ?_)
      | (with_reducible refine LeO.bind ?_ (fun _ => ?_))
      | exact ih0 _ _ _ _ _ _
      | exact ih1 _ _ _ _ _ _
      | exact ih2 _ _ _ _ _ _ _
      | exact tartanref02_Write.mono _ _ _ _
      | exact LeO.none _
      | refine LeO.ite ?_ ?_
      | refine LeO.bind ?_ (fun _ => ?_)
theorem tartanref03_Print.mono : ∀ a0 a1 a2 k, LeO (tartanref03_Print.f k a0 a1 a2) (tartanref03_Print.f (k + 1) a0 a1 a2) := by
  intro a0 a1 a2 k
  obtain ⟨ih0, ih1, ih2⟩ := tartanref03_Print.mono_l k
  unfold tartanref03_Print.f
  repeat' first
      | (with_reducible exact ih0 _ _ _ _ _ _)
      | (with_reducible exact ih1 _ _ _ _ _ _)
      | (with_reducible exact ih2 _ _ _ _ _ _ _)
      | (with_reducible exact tartanref02_Write.mono _ _ _ _)
      | (with_reducible exact LeO.refl _)
      | (with_reducible exact LeO.none _)
      | (with_reducible refine LeO.ite ?_ ?_)
      | (with_reducible refine LeO.bind ?_ (fun _ => ?_))
      | exact ih0 _ _ _ _ _ _
      | exact ih1 _ _ _ _ _ _
      | exact ih2 _ _ _ _ _ _ _
      | exact tartanref02_Write.mono _ _ _ _
      | exact LeO.none _
      | refine LeO.ite ?_ ?_
      | refine LeO.bind ?_ (fun _ => ?_)
set_option maxHeartbeats 8000000 in
set_option maxRecDepth 100000 in
theorem tartanref03_Print.calls (k : Nat) (A0 : Option Addr) (c0 : Nat) (l0 : List (List ByteArray)) (a1 : Int) (a2 : Bool) (r1 : ByteArray) (r2 : Int) (w : World) (hr0 : Kd.C (Kd.slice 9 Kd.string) w A0 l0.length l0) (hc0 : l0.length ≤ c0) (h : tartanref03_Print.f k l0 a1 a2 = some (r1, r2)) :
    Calls Try.prog 45 #[.slice A0 l0.length c0, .int .u8 a1, .bool a2] w fun e w' => e = .returned (.tuple #[.string r1, .int .i64 r2]) ∧ Below w.heap.size w w' := by
  have HR0 := Aside0.mk hr0
  have HC0 := Aside0.mk hc0
  clear hr0 hc0
  have HB := Aside0.mk (Below.refl w.heap.size w)
  have H : ((tartanref01_Good.f a1).bind fun t154 => (if t154 = true then (tartanref03_Print.l0 k l0 a1 a2 (decide ((l0.length : Int) > 2048)) (⟨#[]⟩ : ByteArray) 0) else (some ((⟨#[]⟩ : ByteArray), 2)))) = some (r1, r2) := h
  clear h
  replace H := Option.bind_eq_some_iff.mp H
  obtain ⟨t154, A40, H⟩ := H
  replace H : (if t154 = true then (tartanref03_Print.l0 k l0 a1 a2 (decide ((l0.length : Int) > 2048)) (⟨#[]⟩ : ByteArray) 0) else (some ((⟨#[]⟩ : ByteArray), 2))) = some (r1, r2) := H
  have A4 := Aside0.mk A40
  clear A40
  by_cases c5 : t154 = true
  · subst c5
    have H1 : (tartanref03_Print.l0 k l0 a1 a2 (decide ((l0.length : Int) > 2048)) (⟨#[]⟩ : ByteArray) 0) = some (r1, r2) := by rw [if_pos rfl] at H; exact H
    clear H
    have H := H1
    clear H1
    have H' := Aside0.mk H
    clear H
    go_enter Try.func45, Try.ntmps45
    go_wp2_with (first | ((with_reducible refine gate_callee (f := 28) rfl ?_); refine goesL_ (some 13) rfl rfl Try.func28 (by kernel_rfl) rfl #[.int .u8 a1] rfl (by (try simp only [List.map_toArray, List.map_cons, List.map_nil]); first | done | rfl | (simp only [List.length_drop, List.length_take]; rfl)) ?_; (with_reducible refine (tartanref01_Good.calls a1 true _ A4.out).mono ?_); rintro e w' ⟨rfl, ⟨nd, rfl⟩⟩; refine ⟨_, rfl, ?_⟩))
    go_loopg [8, 9, 10] k (fun kq v8 v9 v10 w' => ∃ (x8_1 : Bool) (x9_1 : ByteArray) (x10_1 : Int), v8 = .bool x8_1 ∧ v9 = .string x9_1 ∧ v10 = .int .i64 x10_1 ∧ Aside0 (tartanref03_Print.l0 kq l0 a1 a2 x8_1 x9_1 x10_1 = some (r1, r2)) ∧ Aside0 (kq ≤ k) ∧ Aside0 (Below w.heap.size w w'))
    case atStart => exact ⟨(decide ((l0.length : Int) > 2048)), ((⟨#[]⟩ : ByteArray)), (0), (by first | rfl | (simp; done) | (simp [*]; done)), (by first | rfl | (simp; done) | (simp [*]; done)), (by first | rfl | (simp; done) | (simp [*]; done)), H', ⟨Nat.le_refl _⟩, ⟨by repeat (first | (with_reducible first | exact HB.out | apply below_alloc | apply pw_below_drewN | apply below_drew1) | exact HB.out)⟩⟩
    case round =>
      clear H'
      try clear c2
      try clear p2
      try clear c4
      try clear c5
      obtain ⟨x8_1, x9_1, x10_1, rfl, rfl, rfl, HA, HK1, HB⟩ := hrel
      cases gk with
      | zero => exact absurd HA.out (by simp [tartanref03_Print.l0])
      | succ k1 =>
        have H := HA.out
        clear HA
        simp only [tartanref03_Print.l0] at H
        by_cases c6 : x10_1 < (l0.length : Int)
        · rw [if_pos c6] at H
          have c6b0 : decide (x10_1 < (l0.length : Int)) = true := decide_eq_true c6
          clear c6
          by_cases c7 : 0 ≤ x10_1
          · rw [if_pos c7] at H
            have c7b0 : decide (0 ≤ x10_1) = true := decide_eq_true c7
            clear c7
            by_cases c8 : ((rd_L1 l0 x10_1).length : Int) = 0
            · rw [if_pos c8] at H
              have c8b0 : (((rd_L1 l0 x10_1).length : Int) == 0) = true := beq_iff_eq.mpr c8
              have c8b1 : (((rd_L1 l0 x10_1).length : Int) != 0) = false := bne_eq_false_iff_eq.mpr c8
              clear c8
              simp only [Option.some.injEq, Prod.mk.injEq] at H
              obtain ⟨rfl, rfl⟩ := H
              have p155 : 0 ≤ (x10_1 : Int) := of_decide_eq_true (by first | (with_reducible assumption) | assumption)
              have q155 : x10_1 < (l0.length : Int) := of_decide_eq_true (by first | (with_reducible assumption) | assumption)
              obtain ⟨ad155, A155_0, c155_0, e155, hx155_0, hl155_0, hi155_0⟩ := at_L1 HR0.out x10_1 p155 q155
              cases e155
              replace hx155_0 := (HB.out.cell (World.block_lt_of_cell? w _ hx155_0)).trans hx155_0
              have HR155_0 := Aside0.mk hi155_0
              have HC155_0 := Aside0.mk hl155_0
              clear hi155_0 hl155_0
              replace p155 := eq_true p155
              replace q155 := eq_true q155
              go_wp2
              go_ret2
              exact ⟨by first | rfl | (simp [errW_none, errW_some] <;> rfl) | (simp [*, errW_none, errW_some] <;> rfl), by repeat (first | (with_reducible first | exact HB.out | apply below_alloc | apply pw_below_drewN | apply below_drew1) | exact HB.out)⟩
            · rw [if_neg c8] at H
              have c8b0 : (((rd_L1 l0 x10_1).length : Int) == 0) = false := beq_eq_false_iff_ne.mpr c8
              have c8b1 : (((rd_L1 l0 x10_1).length : Int) != 0) = true := bne_iff_ne.mpr c8
              have c8b2 : ¬ ((rd_L1 l0 x10_1) = []) := fun h_ => c8 (by rw [h_]; rfl)
              have HC9 := Aside0.mk H
              clear H
              have p155 : 0 ≤ (x10_1 : Int) := of_decide_eq_true (by first | (with_reducible assumption) | assumption)
              have q155 : x10_1 < (l0.length : Int) := of_decide_eq_true (by first | (with_reducible assumption) | assumption)
              obtain ⟨ad155, A155_0, c155_0, e155, hx155_0, hl155_0, hi155_0⟩ := at_L1 HR0.out x10_1 p155 q155
              cases e155
              replace hx155_0 := (HB.out.cell (World.block_lt_of_cell? w _ hx155_0)).trans hx155_0
              have HR155_0 := Aside0.mk hi155_0
              have HC155_0 := Aside0.mk hl155_0
              clear hi155_0 hl155_0
              replace p155 := eq_true p155
              replace q155 := eq_true q155
              go_upto_region 10 with (fail)
              go_cut [8] (fun v8 wc => ∃ (kq : Nat) (x8_8 : Bool), v8 = .bool x8_8 ∧ Aside0 (tartanref03_Print.j1 kq l0 a1 a2 x8_8 x9_1 x10_1 = some (r1, r2)) ∧ Aside0 (kq ≤ k1) ∧ Aside0 (Below w.heap.size w wc))
              case first =>
                have H := HC9.out
                clear HC9
                by_cases c10 : x8_1 = true
                · subst c10
                  have H1 : (tartanref03_Print.j1 k1 l0 a1 a2 true x9_1 x10_1) = some (r1, r2) := by rw [if_pos rfl] at H; exact H
                  clear H
                  have H := H1
                  clear H1
                  have H' := Aside0.mk H
                  clear H
                  go_wp2
                  go_meet
                  case rel => exact ⟨_, (true), (by first | rfl | (simp; done) | (simp [*]; done)), H', ⟨by have := HK1.out; first | omega | exact Nat.le_refl _⟩, ⟨by repeat (first | (with_reducible first | exact HB.out | apply below_alloc | apply pw_below_drewN | apply below_drew1) | exact HB.out)⟩⟩
                · replace c10 := Bool.eq_false_iff.mpr c10
                  subst c10
                  have H1 : (tartanref03_Print.j1 k1 l0 a1 a2 (decide (((rd_L1 l0 x10_1).length : Int) > 128)) x9_1 x10_1) = some (r1, r2) := by rw [if_neg (show ¬ (false = true) by decide)] at H; exact H
                  clear H
                  have H := H1
                  clear H1
                  have H' := Aside0.mk H
                  clear H
                  have p156 : 0 ≤ (x10_1 : Int) := of_decide_eq_true (by first | (with_reducible assumption) | assumption)
                  have q156 : x10_1 < (l0.length : Int) := of_decide_eq_true (by first | (with_reducible assumption) | assumption)
                  obtain ⟨ad156, A156_0, c156_0, e156, hx156_0, hl156_0, hi156_0⟩ := at_L1 HR0.out x10_1 p156 q156
                  obtain rfl : ad155 = ad156 := (by injection e156)
                  replace hx156_0 := (HB.out.cell (World.block_lt_of_cell? w _ hx156_0)).trans hx156_0
                  have HR156_0 := Aside0.mk hi156_0
                  have HC156_0 := Aside0.mk hl156_0
                  clear hi156_0 hl156_0
                  replace p156 := eq_true p156
                  replace q156 := eq_true q156
                  go_wp2
                  go_meet
                  case rel => exact ⟨_, (decide (((rd_L1 l0 x10_1).length : Int) > 128)), (by first | rfl | (simp; done) | (simp [*]; done)), H', ⟨by have := HK1.out; first | omega | exact Nat.le_refl _⟩, ⟨by repeat (first | (with_reducible first | exact HB.out | apply below_alloc | apply pw_below_drewN | apply below_drew1) | exact HB.out)⟩⟩
              case rest =>
                clear HC9
                try clear c1
                try clear p1
                try clear q1
                try clear hx1
                try clear c2
                try clear p2
                try clear c4
                try clear c5
                try clear c6
                try clear c6b0
                try clear c7
                try clear c7b0
                try clear c8
                try clear c8b0
                try clear c8b1
                try clear c8b2
                try clear c10
                try clear hx155_0
                try clear hx156_0
                try clear p155
                try clear p156
                try clear p2
                try clear q155
                try clear q156
                obtain ⟨kq, x8_8, rfl, HA, HJ8, HB⟩ := hcut
                cases kq with
                | zero => exact absurd HA.out (by simp [tartanref03_Print.j1])
                | succ kj8 =>
                  have H := HA.out
                  clear HA
                  simp only [tartanref03_Print.j1] at H
                  have H' := Aside0.mk H
                  clear H
                  go_wp2
                  go_loopg [8, 11] kj8 (fun kq v8 v11 w' => ∃ (x8_3 : Bool) (x11_3 : Int), v8 = .bool x8_3 ∧ v11 = .int .i64 x11_3 ∧ Aside0 (tartanref03_Print.l1 kq l0 a1 a2 x8_3 x9_1 x10_1 x11_3 = some (r1, r2)) ∧ Aside0 (kq ≤ kj8) ∧ Aside0 (Below w.heap.size w w'))
                  case atStart => exact ⟨(x8_8), (0), (by first | rfl | (simp; done) | (simp [*]; done)), (by first | rfl | (simp; done) | (simp [*]; done)), H', ⟨Nat.le_refl _⟩, ⟨by repeat (first | (with_reducible first | exact HB.out | apply below_alloc | apply pw_below_drewN | apply below_drew1) | exact HB.out)⟩⟩
                  case round =>
                    clear H'
                    try clear c1
                    try clear p1
                    try clear q1
                    try clear hx1
                    try clear c2
                    try clear p2
                    try clear c4
                    try clear c5
                    try clear c6
                    try clear c6b0
                    try clear c7
                    try clear c7b0
                    try clear c8
                    try clear c8b0
                    try clear c8b1
                    try clear c8b2
                    try clear c10
                    try clear hx155_0
                    try clear hx156_0
                    try clear p1
                    try clear p155
                    try clear p156
                    try clear p2
                    try clear q1
                    try clear q155
                    try clear q156
                    obtain ⟨x8_3, x11_3, rfl, rfl, HA, HK3, HB⟩ := hrel
                    cases gk with
                    | zero => exact absurd HA.out (by simp [tartanref03_Print.l1])
                    | succ k3 =>
                      have H := HA.out
                      clear HA
                      simp only [tartanref03_Print.l1] at H
                      by_cases c11 : 0 ≤ x10_1
                      · rw [if_pos c11] at H
                        have c11b0 : decide (0 ≤ x10_1) = true := decide_eq_true c11
                        clear c11
                        by_cases c12 : x10_1 < (l0.length : Int)
                        · rw [if_pos c12] at H
                          have c12b0 : decide (x10_1 < (l0.length : Int)) = true := decide_eq_true c12
                          clear c12
                          by_cases c13 : x11_3 < ((rd_L1 l0 x10_1).length : Int)
                          · rw [if_pos c13] at H
                            have c13b0 : decide (x11_3 < ((rd_L1 l0 x10_1).length : Int)) = true := decide_eq_true c13
                            clear c13
                            by_cases c14 : x8_3 = true
                            · subst c14
                              have H1 : (tartanref03_Print.l1 k3 l0 a1 a2 true x9_1 x10_1 (wrap64 (x11_3 + 1))) = some (r1, r2) := by rw [if_pos rfl] at H; exact H
                              clear H
                              have H := H1
                              clear H1
                              have H' := Aside0.mk H
                              clear H
                              have p157 : 0 ≤ (x10_1 : Int) := of_decide_eq_true (by first | (with_reducible assumption) | assumption)
                              have q157 : x10_1 < (l0.length : Int) := of_decide_eq_true (by first | (with_reducible assumption) | assumption)
                              obtain ⟨ad157, A157_0, c157_0, e157, hx157_0, hl157_0, hi157_0⟩ := at_L1 HR0.out x10_1 p157 q157
                              obtain rfl : ad155 = ad157 := (by injection e157)
                              replace hx157_0 := (HB.out.cell (World.block_lt_of_cell? w _ hx157_0)).trans hx157_0
                              have HR157_0 := Aside0.mk hi157_0
                              have HC157_0 := Aside0.mk hl157_0
                              clear hi157_0 hl157_0
                              replace p157 := eq_true p157
                              replace q157 := eq_true q157
                              go_wp2
                              go_roundg k3
                              case measure => have := HK1.out; have := HJ8.out; have := HK3.out; omega
                              case rel => exact ⟨(true), (wrap64 (x11_3 + 1)), (by first | rfl | (simp; done) | (simp [*]; done)), (by first | rfl | (simp; done) | (simp [*]; done)), H', ⟨by have := HK1.out; have := HJ8.out; have := HK3.out; omega⟩, ⟨by repeat (first | (with_reducible first | exact HB.out | apply below_alloc | apply pw_below_drewN | apply below_drew1) | exact HB.out)⟩⟩
                            · replace c14 := Bool.eq_false_iff.mpr c14
                              subst c14
                              have H1 : (if 0 ≤ x11_3 then (tartanref03_Print.l1 k3 l0 a1 a2 (decide (((rdOf ByteArray.empty (rd_L1 l0 x10_1) x11_3).size : Int) > 4096)) x9_1 x10_1 (wrap64 (x11_3 + 1))) else (none)) = some (r1, r2) := by rw [if_neg (show ¬ (false = true) by decide)] at H; exact H
                              clear H
                              have H := H1
                              clear H1
                              by_cases c15 : 0 ≤ x11_3
                              · rw [if_pos c15] at H
                                have c15b0 : decide (0 ≤ x11_3) = true := decide_eq_true c15
                                clear c15
                                have H' := Aside0.mk H
                                clear H
                                have p157 : 0 ≤ (x10_1 : Int) := of_decide_eq_true (by first | (with_reducible assumption) | assumption)
                                have q157 : x10_1 < (l0.length : Int) := of_decide_eq_true (by first | (with_reducible assumption) | assumption)
                                obtain ⟨ad157, A157_0, c157_0, e157, hx157_0, hl157_0, hi157_0⟩ := at_L1 HR0.out x10_1 p157 q157
                                obtain rfl : ad155 = ad157 := (by injection e157)
                                replace hx157_0 := (HB.out.cell (World.block_lt_of_cell? w _ hx157_0)).trans hx157_0
                                have HR157_0 := Aside0.mk hi157_0
                                have HC157_0 := Aside0.mk hl157_0
                                clear hi157_0 hl157_0
                                replace p157 := eq_true p157
                                replace q157 := eq_true q157
                                have p158 : 0 ≤ (x10_1 : Int) := of_decide_eq_true (by first | (with_reducible assumption) | assumption)
                                have q158 : x10_1 < (l0.length : Int) := of_decide_eq_true (by first | (with_reducible assumption) | assumption)
                                obtain ⟨ad158, A158_0, c158_0, e158, hx158_0, hl158_0, hi158_0⟩ := at_L1 HR0.out x10_1 p158 q158
                                obtain rfl : ad155 = ad158 := (by injection e158)
                                replace hx158_0 := (HB.out.cell (World.block_lt_of_cell? w _ hx158_0)).trans hx158_0
                                have HR158_0 := Aside0.mk hi158_0
                                have HC158_0 := Aside0.mk hl158_0
                                clear hi158_0 hl158_0
                                replace p158 := eq_true p158
                                replace q158 := eq_true q158
                                have ea_ := Option.some.inj (hx157_0.symm.trans hx158_0)
                                injection ea_ with ea_ en_ ec_
                                subst ea_
                                subst ec_
                                clear en_
                                have p159 : 0 ≤ (x11_3 : Int) := of_decide_eq_true (by first | (with_reducible assumption) | assumption)
                                have q159 : x11_3 < ((rd_L1 l0 x10_1).length : Int) := of_decide_eq_true (by first | (with_reducible assumption) | assumption)
                                obtain ⟨ad159, e159, hx159_0⟩ := Kd.at_string HR158_0.out x11_3 p159 q159
                                cases e159
                                replace hx159_0 := (HB.out.cell (World.block_lt_of_cell? w _ hx159_0)).trans hx159_0
                                replace p159 := eq_true p159
                                replace q159 := eq_true q159
                                go_wp2
                                go_roundg k3
                                case measure => have := HK1.out; have := HJ8.out; have := HK3.out; omega
                                case rel => exact ⟨(decide (((rdOf ByteArray.empty (rd_L1 l0 x10_1) x11_3).size : Int) > 4096)), (wrap64 (x11_3 + 1)), (by first | rfl | (simp; done) | (simp [*]; done)), (by first | rfl | (simp; done) | (simp [*]; done)), H', ⟨by have := HK1.out; have := HJ8.out; have := HK3.out; omega⟩, ⟨by repeat (first | (with_reducible first | exact HB.out | apply below_alloc | apply pw_below_drewN | apply below_drew1) | exact HB.out)⟩⟩
                              · rw [if_neg c15] at H
                                exact absurd H (by simp)
                          · rw [if_neg c13] at H
                            have c13b0 : decide (x11_3 < ((rd_L1 l0 x10_1).length : Int)) = false := decide_eq_false c13
                            clear c13
                            replace H := Option.bind_eq_some_iff.mp H
                            obtain ⟨t161, A160, H⟩ := H
                            replace H : (if x9_1.size + t161.size ≤ 9223372036854775807 then (tartanref03_Print.l0 k3 l0 a1 a2 x8_3 (x9_1 ++ t161) (wrap64 (x10_1 + 1))) else (none)) = some (r1, r2) := H
                            have A16 := Aside0.mk A160
                            clear A160
                            by_cases c17 : x9_1.size + t161.size ≤ 9223372036854775807
                            · rw [if_pos c17] at H
                              have c17b0 := eq_true c17
                              have c17b1 : decide (x9_1.size + t161.size ≤ 9223372036854775807) = true := decide_eq_true c17
                              try have c17b2 : (9223372036854775807 < x9_1.size + t161.size) = False := eq_false (Nat.not_lt.2 c17)
                              have H' := Aside0.mk H
                              clear H
                              have p157 : 0 ≤ (x10_1 : Int) := of_decide_eq_true (by first | (with_reducible assumption) | assumption)
                              have q157 : x10_1 < (l0.length : Int) := of_decide_eq_true (by first | (with_reducible assumption) | assumption)
                              obtain ⟨ad157, A157_0, c157_0, e157, hx157_0, hl157_0, hi157_0⟩ := at_L1 HR0.out x10_1 p157 q157
                              obtain rfl : ad155 = ad157 := (by injection e157)
                              replace hx157_0 := (HB.out.cell (World.block_lt_of_cell? w _ hx157_0)).trans hx157_0
                              have HR157_0 := Aside0.mk hi157_0
                              have HC157_0 := Aside0.mk hl157_0
                              clear hi157_0 hl157_0
                              replace p157 := eq_true p157
                              replace q157 := eq_true q157
                              have p160 : 0 ≤ (x10_1 : Int) := of_decide_eq_true (by first | (with_reducible assumption) | assumption)
                              have q160 : x10_1 < (l0.length : Int) := of_decide_eq_true (by first | (with_reducible assumption) | assumption)
                              obtain ⟨ad160, A160_0, c160_0, e160, hx160_0, hl160_0, hi160_0⟩ := at_L1 HR0.out x10_1 p160 q160
                              obtain rfl : ad155 = ad160 := (by injection e160)
                              replace hx160_0 := (HB.out.cell (World.block_lt_of_cell? w _ hx160_0)).trans hx160_0
                              have HR160_0 := Aside0.mk hi160_0
                              have HC160_0 := Aside0.mk hl160_0
                              clear hi160_0 hl160_0
                              replace p160 := eq_true p160
                              replace q160 := eq_true q160
                              have ea_ := Option.some.inj (hx157_0.symm.trans hx160_0)
                              injection ea_ with ea_ en_ ec_
                              subst ea_
                              subst ec_
                              clear en_
                              go_wp2_with (first | ((with_reducible refine gate_callee (f := 47) rfl ?_); refine goesL_ (some 67) rfl rfl Try.func47 (by kernel_rfl) rfl #[.slice A157_0 (rd_L1 l0 x10_1).length c157_0, .int .u8 a1, .bool a2] rfl (by (try simp only [List.map_toArray, List.map_cons, List.map_nil]); first | done | rfl | (simp only [List.length_drop, List.length_take]; rfl)) ?_; (with_reducible refine (tartanref02_Write.calls k3 _ _ (rd_L1 l0 x10_1) a1 a2 t161 _ ?side1 ?side2 A16.out).mono ?_); (case side1 => repeat (first | exact (Kd.C_below HR160_0.out HB.out) | (with_reducible refine Kd.C_alloc ?_ _) | (with_reducible refine Kd.C_drewN ?_ _) | (with_reducible refine Kd.C_drew ?_))); (case side2 => exact HC160_0.out); rintro e w18 ⟨rfl, hb⟩; refine ⟨_, rfl, ?_⟩; have n0_ := Aside0.mk (below_step (by repeat (first | (with_reducible first | exact HB.out | apply below_alloc | apply pw_below_drewN | apply below_drew1) | exact HB.out)) hb); clear HB; have HB := n0_; clear n0_; (try clear hb); (try clear hb2); (try clear hk); (try clear hi)))
                              go_roundg k3
                              case measure => have := HK1.out; have := HJ8.out; have := HK3.out; omega
                              case rel => exact ⟨(x8_3), (x9_1 ++ t161), (wrap64 (x10_1 + 1)), (by first | rfl | (simp; done) | (simp [*]; done)), (by first | rfl | (simp; done) | (simp [*]; done)), (by first | rfl | (simp; done) | (simp [*]; done)), H', ⟨by have := HK1.out; have := HJ8.out; have := HK3.out; omega⟩, ⟨by repeat (first | (with_reducible first | exact HB.out | apply below_alloc | apply pw_below_drewN | apply below_drew1) | exact HB.out)⟩⟩
                            · rw [if_neg c17] at H
                              exact absurd H (by simp)
                        · rw [if_neg c12] at H
                          exact absurd H (by simp)
                      · rw [if_neg c11] at H
                        exact absurd H (by simp)
          · rw [if_neg c7] at H
            exact absurd H (by simp)
        · rw [if_neg c6] at H
          have c6b0 : decide (x10_1 < (l0.length : Int)) = false := decide_eq_false c6
          clear c6
          by_cases c19 : x8_1 = true
          · subst c19
            have H1 : (some ((⟨#[]⟩ : ByteArray), 7)) = some (r1, r2) := by rw [if_pos rfl] at H; exact H
            clear H
            have H := H1
            clear H1
            simp only [Option.some.injEq, Prod.mk.injEq] at H
            obtain ⟨rfl, rfl⟩ := H
            go_wp2
            go_ret2
            exact ⟨by first | rfl | (simp [errW_none, errW_some] <;> rfl) | (simp [*, errW_none, errW_some] <;> rfl), by repeat (first | (with_reducible first | exact HB.out | apply below_alloc | apply pw_below_drewN | apply below_drew1) | exact HB.out)⟩
          · replace c19 := Bool.eq_false_iff.mpr c19
            subst c19
            have H1 : (if (x9_1.size : Int) > 4194304 then (some ((⟨#[]⟩ : ByteArray), 7)) else (some (x9_1, 0))) = some (r1, r2) := by rw [if_neg (show ¬ (false = true) by decide)] at H; exact H
            clear H
            have H := H1
            clear H1
            by_cases c20 : (x9_1.size : Int) > 4194304
            · rw [if_pos c20] at H
              have c20b0 : decide (4194304 < (x9_1.size : Int)) = true := decide_eq_true c20
              have c20b1 : decide (4194304 < x9_1.size) = true := decide_eq_true (by omega)
              clear c20
              simp only [Option.some.injEq, Prod.mk.injEq] at H
              obtain ⟨rfl, rfl⟩ := H
              go_wp2
              go_ret2
              exact ⟨by first | rfl | (simp [errW_none, errW_some] <;> rfl) | (simp [*, errW_none, errW_some] <;> rfl), by repeat (first | (with_reducible first | exact HB.out | apply below_alloc | apply pw_below_drewN | apply below_drew1) | exact HB.out)⟩
            · rw [if_neg c20] at H
              have c20b0 : decide (4194304 < (x9_1.size : Int)) = false := decide_eq_false c20
              have c20b1 : decide (4194304 < x9_1.size) = false := decide_eq_false (by omega)
              clear c20
              simp only [Option.some.injEq, Prod.mk.injEq] at H
              obtain ⟨rfl, rfl⟩ := H
              go_wp2
              go_ret2
              exact ⟨by first | rfl | (simp [errW_none, errW_some] <;> rfl) | (simp [*, errW_none, errW_some] <;> rfl), by repeat (first | (with_reducible first | exact HB.out | apply below_alloc | apply pw_below_drewN | apply below_drew1) | exact HB.out)⟩
  · replace c5 := Bool.eq_false_iff.mpr c5
    subst c5
    have H1 : (some ((⟨#[]⟩ : ByteArray), 2)) = some (r1, r2) := by rw [if_neg (show ¬ (false = true) by decide)] at H; exact H
    clear H
    have H := H1
    clear H1
    simp only [Option.some.injEq, Prod.mk.injEq] at H
    obtain ⟨rfl, rfl⟩ := H
    go_enter Try.func45, Try.ntmps45
    go_wp2_with (first | ((with_reducible refine gate_callee (f := 28) rfl ?_); refine goesL_ (some 13) rfl rfl Try.func28 (by kernel_rfl) rfl #[.int .u8 a1] rfl (by (try simp only [List.map_toArray, List.map_cons, List.map_nil]); first | done | rfl | (simp only [List.length_drop, List.length_take]; rfl)) ?_; (with_reducible refine (tartanref01_Good.calls a1 false _ A4.out).mono ?_); rintro e w' ⟨rfl, ⟨nd, rfl⟩⟩; refine ⟨_, rfl, ?_⟩))
    go_ret2
    exact ⟨by first | rfl | (simp [errW_none, errW_some] <;> rfl) | (simp [*, errW_none, errW_some] <;> rfl), by repeat (first | (with_reducible first | exact HB.out | apply below_alloc | apply pw_below_drewN | apply below_drew1) | exact HB.out)⟩

end Go.Proofs.Ytggodagdfldndaa.Q.L.Z

/-! Walks of Go functions of this seat against plain Lean functions, written by a program of this session (the kit's print, with hand-proved contracts for what it does not take). Lean checks them. -/
namespace Go.Proofs.Ytggodagdfldndaa.Q.L.Z
open Go.RowKit Go.Proofs.YtggodagdfldndaaW.PrintWords Go.Proofs.YtggodagdfldndaaW.PrintLast Go.Proofs.YtggodagdfldndaaW.PrintMore
attribute [local go_sem] max2_int min2_int max_two min_two max_three min_three max_four min_four   -- for this text's walks alone
set_option linter.unusedVariables false
set_option linter.unusedSimpArgs false

/-! ### tartanlaw03_CsvPrints: function 13 -/
def tartanlaw03_CsvPrints.j0 : Nat → List (List ByteArray) → List (List ByteArray) → Int → Bool → Bool → Bool → Option (Bool)
  | 0, _, _, _, _, _, _ => none
  | k + 1, x0, x1, x2, x3, x9, x10 => if x10 = true then ((csv_Print.f x0 x2 x3).bind fun bt165 => ((tartanref03_Print.f k x0 x2 x3).bind fun bt167 => ((tartanref03_Same.f k x0 x1).bind fun t169 => (if x9 = true then (if bt165.1.toList = bt167.1.toList then (if bt165.2 = bt167.2 then ((csv_Same.f x0 x1).bind fun t170 => (some (t170 == t169))) else (some false)) else (some false)) else (some false))))) else (some x9)
def tartanlaw03_CsvPrints.f (k : Nat) (l0 : List (List ByteArray)) (l1 : List (List ByteArray)) (a2 : Int) (a3 : Bool) : Option (Bool) := (tartanlaw03_works.f).bind fun t162 => (if t162 = true then ((tartanref03_Few.f k l0).bind fun t163 => (if t163 = true then ((tartanref03_Few.f k l1).bind fun t164 => (tartanlaw03_CsvPrints.j0 k l0 l1 a2 a3 t162 t164)) else (tartanlaw03_CsvPrints.j0 k l0 l1 a2 a3 t162 false))) else (some false))
theorem tartanlaw03_CsvPrints.mono_l : ∀ k, (∀ y0 y1 y2 y3 y4 y5, LeO (tartanlaw03_CsvPrints.j0 k y0 y1 y2 y3 y4 y5) (tartanlaw03_CsvPrints.j0 (k + 1) y0 y1 y2 y3 y4 y5))
  | 0 => fun _ _ _ _ _ _ r h => by simp [tartanlaw03_CsvPrints.j0] at h
  | k + 1 => by
    have ih0 := tartanlaw03_CsvPrints.mono_l k
    · intro y0 y1 y2 y3 y4 y5
      unfold tartanlaw03_CsvPrints.j0
      repeat' first
      | (with_reducible exact ih0 _ _ _ _ _ _)
      | (with_reducible exact tartanref03_Few.mono _ _)
      | (with_reducible exact tartanref03_Print.mono _ _ _ _)
      | (with_reducible exact tartanref03_Same.mono _ _ _)
      | (with_reducible exact LeO.refl _)
      | (with_reducible exact LeO.none _)
      | (with_reducible refine LeO.ite ?_ ?_)
      | (with_reducible refine LeO.bind ?_ (fun _ => ?_))
      | exact ih0 _ _ _ _ _ _
      | exact tartanref03_Few.mono _ _
      | exact tartanref03_Print.mono _ _ _ _
      | exact tartanref03_Same.mono _ _ _
      | exact LeO.none _
      | refine LeO.ite ?_ ?_
      | refine LeO.bind ?_ (fun _ => ?_)
theorem tartanlaw03_CsvPrints.mono : ∀ a0 a1 a2 a3 k, LeO (tartanlaw03_CsvPrints.f k a0 a1 a2 a3) (tartanlaw03_CsvPrints.f (k + 1) a0 a1 a2 a3) := by
  intro a0 a1 a2 a3 k
  have ih0 := tartanlaw03_CsvPrints.mono_l k
  unfold tartanlaw03_CsvPrints.f
  repeat' first
      | (with_reducible exact ih0 _ _ _ _ _ _)
      | (with_reducible exact tartanref03_Few.mono _ _)
      | (with_reducible exact tartanref03_Print.mono _ _ _ _)
      | (with_reducible exact tartanref03_Same.mono _ _ _)
      | (with_reducible exact LeO.refl _)
      | (with_reducible exact LeO.none _)
      | (with_reducible refine LeO.ite ?_ ?_)
      | (with_reducible refine LeO.bind ?_ (fun _ => ?_))
      | exact ih0 _ _ _ _ _ _
      | exact tartanref03_Few.mono _ _
      | exact tartanref03_Print.mono _ _ _ _
      | exact tartanref03_Same.mono _ _ _
      | exact LeO.none _
      | refine LeO.ite ?_ ?_
      | refine LeO.bind ?_ (fun _ => ?_)
set_option maxHeartbeats 8000000 in
set_option maxRecDepth 100000 in
theorem tartanlaw03_CsvPrints.calls (k : Nat) (A0 : Option Addr) (c0 : Nat) (l0 : List (List ByteArray)) (A1 : Option Addr) (c1 : Nat) (l1 : List (List ByteArray)) (a2 : Int) (a3 : Bool) (r : Bool) (w : World) (hr0 : Kd.C (Kd.slice 9 Kd.string) w A0 l0.length l0) (hc0 : l0.length ≤ c0) (hr1 : Kd.C (Kd.slice 9 Kd.string) w A1 l1.length l1) (hc1 : l1.length ≤ c1) (h : tartanlaw03_CsvPrints.f k l0 l1 a2 a3 = some r) :
    Calls Try.prog 13 #[.slice A0 l0.length c0, .slice A1 l1.length c1, .int .u8 a2, .bool a3] w fun e w' => e = .returned (.bool r) ∧ Below w.heap.size w w' := by
  have HR0 := Aside0.mk hr0
  have HC0 := Aside0.mk hc0
  clear hr0 hc0
  have HR1 := Aside0.mk hr1
  have HC1 := Aside0.mk hc1
  clear hr1 hc1
  have HB := Aside0.mk (Below.refl w.heap.size w)
  have H : ((tartanlaw03_works.f).bind fun t162 => (if t162 = true then ((tartanref03_Few.f k l0).bind fun t163 => (if t163 = true then ((tartanref03_Few.f k l1).bind fun t164 => (tartanlaw03_CsvPrints.j0 k l0 l1 a2 a3 t162 t164)) else (tartanlaw03_CsvPrints.j0 k l0 l1 a2 a3 t162 false))) else (some false))) = some r := h
  clear h
  replace H := Option.bind_eq_some_iff.mp H
  obtain ⟨t162, A50, H⟩ := H
  replace H : (if t162 = true then ((tartanref03_Few.f k l0).bind fun t163 => (if t163 = true then ((tartanref03_Few.f k l1).bind fun t164 => (tartanlaw03_CsvPrints.j0 k l0 l1 a2 a3 t162 t164)) else (tartanlaw03_CsvPrints.j0 k l0 l1 a2 a3 t162 false))) else (some false)) = some r := H
  have A5 := Aside0.mk A50
  clear A50
  by_cases c6 : t162 = true
  · subst c6
    have H1 : ((tartanref03_Few.f k l0).bind fun t163 => (if t163 = true then ((tartanref03_Few.f k l1).bind fun t164 => (tartanlaw03_CsvPrints.j0 k l0 l1 a2 a3 true t164)) else (tartanlaw03_CsvPrints.j0 k l0 l1 a2 a3 true false))) = some r := by rw [if_pos rfl] at H; exact H
    clear H
    have H := H1
    clear H1
    have HC7 := Aside0.mk H
    clear H
    go_enter Try.func13, Try.ntmps13
    go_upto_region 4 with (first | ((with_reducible refine gate_callee (f := 39) rfl ?_); refine goesL_ (some 16) rfl rfl Try.func39 (by kernel_rfl) rfl #[] rfl (by (try simp only [List.map_toArray, List.map_cons, List.map_nil]); first | done | rfl | (simp only [List.length_drop, List.length_take]; rfl)) ?_; (with_reducible refine (tartanlaw03_works.calls  true _ A5.out).mono ?_); rintro e w8 ⟨rfl, hb⟩; refine ⟨_, rfl, ?_⟩; have n0_ := Aside0.mk (below_step (by repeat (first | (with_reducible first | exact HB.out | apply below_alloc | apply pw_below_drewN | apply below_drew1) | exact HB.out)) hb); clear HB; have HB := n0_; clear n0_; (try clear hb); (try clear hb2); (try clear hk); (try clear hi)))
    (try simp only [Act.put, List.setIfInBounds_toArray, List.set_cons_zero, List.set_cons_succ])
    go_cut [10] (fun v10 wc => ∃ (kq : Nat) (x10_6 : Bool), v10 = .bool x10_6 ∧ Aside0 (tartanlaw03_CsvPrints.j0 kq l0 l1 a2 a3 true x10_6 = some r) ∧ Aside0 (kq ≤ k) ∧ Aside0 (Below w.heap.size w wc))
    case first =>
      have H := HC7.out
      clear HC7
      replace H := Option.bind_eq_some_iff.mp H
      obtain ⟨t163, A90, H⟩ := H
      replace H : (if t163 = true then ((tartanref03_Few.f k l1).bind fun t164 => (tartanlaw03_CsvPrints.j0 k l0 l1 a2 a3 true t164)) else (tartanlaw03_CsvPrints.j0 k l0 l1 a2 a3 true false)) = some r := H
      have A9 := Aside0.mk A90
      clear A90
      by_cases c10 : t163 = true
      · subst c10
        have H1 : ((tartanref03_Few.f k l1).bind fun t164 => (tartanlaw03_CsvPrints.j0 k l0 l1 a2 a3 true t164)) = some r := by rw [if_pos rfl] at H; exact H
        clear H
        have H := H1
        clear H1
        replace H := Option.bind_eq_some_iff.mp H
        obtain ⟨t164, A110, H⟩ := H
        replace H : (tartanlaw03_CsvPrints.j0 k l0 l1 a2 a3 true t164) = some r := H
        have A11 := Aside0.mk A110
        clear A110
        have H' := Aside0.mk H
        clear H
        go_wp2_with (first | ((with_reducible refine gate_callee (f := 43) rfl ?_); refine goesL_ (some 20) rfl rfl Try.func43 (by kernel_rfl) rfl #[.slice A0 l0.length c0] rfl (by (try simp only [List.map_toArray, List.map_cons, List.map_nil]); first | done | rfl | (simp only [List.length_drop, List.length_take]; rfl)) ?_; (with_reducible refine (tartanref03_Few.calls k _ _ l0 true _ ?side1 ?side2 A9.out).mono ?_); (case side1 => repeat (first | exact (Kd.C_below HR0.out HB.out) | (with_reducible refine Kd.C_alloc ?_ _) | (with_reducible refine Kd.C_drewN ?_ _) | (with_reducible refine Kd.C_drew ?_))); (case side2 => exact HC0.out); rintro e w' ⟨rfl, ⟨nd, rfl⟩⟩; refine ⟨_, rfl, ?_⟩) | (go_at_call 43; (with_reducible refine (tartanref03_Few.calls k _ _ l1 t164 _ ?side1 ?side2 A11.out).mono ?_); (case side1 => repeat (first | exact (Kd.C_below HR1.out (by repeat (first | (with_reducible first | exact HB.out | apply below_alloc | apply pw_below_drewN | apply below_drew1) | exact HB.out))) | (with_reducible refine Kd.C_alloc ?_ _) | (with_reducible refine Kd.C_drewN ?_ _) | (with_reducible refine Kd.C_drew ?_))); (case side2 => exact HC1.out); rintro e w' ⟨rfl, ⟨nd, rfl⟩⟩))
        go_meet
        case rel => exact ⟨_, (t164), (by first | rfl | (simp; done) | (simp [*]; done)), H', ⟨by first | omega | exact Nat.le_refl _⟩, ⟨by repeat (first | (with_reducible first | exact HB.out | apply below_alloc | apply pw_below_drewN | apply below_drew1) | exact HB.out)⟩⟩
      · replace c10 := Bool.eq_false_iff.mpr c10
        subst c10
        have H1 : (tartanlaw03_CsvPrints.j0 k l0 l1 a2 a3 true false) = some r := by rw [if_neg (show ¬ (false = true) by decide)] at H; exact H
        clear H
        have H := H1
        clear H1
        have H' := Aside0.mk H
        clear H
        go_wp2_with (first | ((with_reducible refine gate_callee (f := 43) rfl ?_); refine goesL_ (some 20) rfl rfl Try.func43 (by kernel_rfl) rfl #[.slice A0 l0.length c0] rfl (by (try simp only [List.map_toArray, List.map_cons, List.map_nil]); first | done | rfl | (simp only [List.length_drop, List.length_take]; rfl)) ?_; (with_reducible refine (tartanref03_Few.calls k _ _ l0 false _ ?side1 ?side2 A9.out).mono ?_); (case side1 => repeat (first | exact (Kd.C_below HR0.out HB.out) | (with_reducible refine Kd.C_alloc ?_ _) | (with_reducible refine Kd.C_drewN ?_ _) | (with_reducible refine Kd.C_drew ?_))); (case side2 => exact HC0.out); rintro e w' ⟨rfl, ⟨nd, rfl⟩⟩; refine ⟨_, rfl, ?_⟩))
        go_meet
        case rel => exact ⟨_, (false), (by first | rfl | (simp; done) | (simp [*]; done)), H', ⟨by first | omega | exact Nat.le_refl _⟩, ⟨by repeat (first | (with_reducible first | exact HB.out | apply below_alloc | apply pw_below_drewN | apply below_drew1) | exact HB.out)⟩⟩
    case rest =>
      clear HC7
      try clear c1
      try clear p2
      try clear c3
      try clear c4
      try clear c6
      try clear c10
      obtain ⟨kq, x10_6, rfl, HA, HJ6, HB⟩ := hcut
      cases kq with
      | zero => exact absurd HA.out (by simp [tartanlaw03_CsvPrints.j0])
      | succ kj6 =>
        have H := HA.out
        clear HA
        simp only [tartanlaw03_CsvPrints.j0] at H
        by_cases c12 : x10_6 = true
        · subst c12
          have H1 : ((csv_Print.f l0 a2 a3).bind fun bt165 => ((tartanref03_Print.f kj6 l0 a2 a3).bind fun bt167 => ((tartanref03_Same.f kj6 l0 l1).bind fun t169 => (if true = true then (if bt165.1.toList = bt167.1.toList then (if bt165.2 = bt167.2 then ((csv_Same.f l0 l1).bind fun t170 => (some (t170 == t169))) else (some false)) else (some false)) else (some false))))) = some r := by rw [if_pos rfl] at H; exact H
          clear H
          have H := H1
          clear H1
          replace H := Option.bind_eq_some_iff.mp H
          obtain ⟨⟨t165, t166⟩, A130, H⟩ := H
          replace H : ((tartanref03_Print.f kj6 l0 a2 a3).bind fun bt167 => ((tartanref03_Same.f kj6 l0 l1).bind fun t169 => (if true = true then (if t165.toList = bt167.1.toList then (if t166 = bt167.2 then ((csv_Same.f l0 l1).bind fun t170 => (some (t170 == t169))) else (some false)) else (some false)) else (some false)))) = some r := H
          have A13 := Aside0.mk A130
          clear A130
          replace H := Option.bind_eq_some_iff.mp H
          obtain ⟨⟨t167, t168⟩, A140, H⟩ := H
          replace H : ((tartanref03_Same.f kj6 l0 l1).bind fun t169 => (if true = true then (if t165.toList = t167.toList then (if t166 = t168 then ((csv_Same.f l0 l1).bind fun t170 => (some (t170 == t169))) else (some false)) else (some false)) else (some false))) = some r := H
          have A14 := Aside0.mk A140
          clear A140
          replace H := Option.bind_eq_some_iff.mp H
          obtain ⟨t169, A150, H⟩ := H
          replace H : (if true = true then (if t165.toList = t167.toList then (if t166 = t168 then ((csv_Same.f l0 l1).bind fun t170 => (some (t170 == t169))) else (some false)) else (some false)) else (some false)) = some r := H
          have A15 := Aside0.mk A150
          clear A150
          have H1 : (if t165.toList = t167.toList then (if t166 = t168 then ((csv_Same.f l0 l1).bind fun t170 => (some (t170 == t169))) else (some false)) else (some false)) = some r := by first | (rw [if_pos rfl] at H; exact H) | (rw [if_pos trivial] at H; exact H) | (rw [if_neg not_false] at H; exact H) | simpa using H
          clear H
          have H := H1
          clear H1
          by_cases c16 : t165.toList = t167.toList
          · rw [if_pos c16] at H
            have c16b0 : (t165.toList == t167.toList) = true := beq_iff_eq.mpr c16
            have c16b1 : (t165.toList != t167.toList) = false := bne_eq_false_iff_eq.mpr c16
            clear c16
            by_cases c17 : t166 = t168
            · rw [if_pos c17] at H
              have c17b0 : (t166 == t168) = true := beq_iff_eq.mpr c17
              have c17b1 : (t166 != t168) = false := bne_eq_false_iff_eq.mpr c17
              clear c17
              replace H := Option.bind_eq_some_iff.mp H
              obtain ⟨t170, A180, H⟩ := H
              replace H : (some (t170 == t169)) = some r := H
              have A18 := Aside0.mk A180
              clear A180
              obtain rfl := Option.some.inj H
              go_wp2_with (first | ((with_reducible refine gate_callee (f := 44) rfl ?_); refine goesL_ (some 32) rfl rfl Try.func44 (by kernel_rfl) rfl #[.slice A0 l0.length c0, .int .u8 a2, .bool a3] rfl (by (try simp only [List.map_toArray, List.map_cons, List.map_nil]); first | done | rfl | (simp only [List.length_drop, List.length_take]; rfl)) ?_; (with_reducible refine (csv_Print.calls _ _ l0 a2 a3 t165 t166 _ ?side1 ?side2 A13.out).mono ?_); (case side1 => repeat (first | exact (Kd.C_below HR0.out HB.out) | (with_reducible refine Kd.C_alloc ?_ _) | (with_reducible refine Kd.C_drewN ?_ _) | (with_reducible refine Kd.C_drew ?_))); (case side2 => exact HC0.out); rintro e w19 ⟨rfl, hb⟩; refine ⟨_, rfl, ?_⟩; have n0_ := Aside0.mk (below_step (by repeat (first | (with_reducible first | exact HB.out | apply below_alloc | apply pw_below_drewN | apply below_drew1) | exact HB.out)) hb); clear HB; have HB := n0_; clear n0_; (try clear hb); (try clear hb2); (try clear hk); (try clear hi)) | ((with_reducible refine gate_callee (f := 45) rfl ?_); refine goesL_ (some 39) rfl rfl Try.func45 (by kernel_rfl) rfl #[.slice A0 l0.length c0, .int .u8 a2, .bool a3] rfl (by (try simp only [List.map_toArray, List.map_cons, List.map_nil]); first | done | rfl | (simp only [List.length_drop, List.length_take]; rfl)) ?_; (with_reducible refine (tartanref03_Print.calls kj6 _ _ l0 a2 a3 t167 t168 _ ?side1 ?side2 A14.out).mono ?_); (case side1 => repeat (first | exact (Kd.C_below HR0.out HB.out) | (with_reducible refine Kd.C_alloc ?_ _) | (with_reducible refine Kd.C_drewN ?_ _) | (with_reducible refine Kd.C_drew ?_))); (case side2 => exact HC0.out); rintro e w20 ⟨rfl, hb⟩; refine ⟨_, rfl, ?_⟩; have n0_ := Aside0.mk (below_step (by repeat (first | (with_reducible first | exact HB.out | apply below_alloc | apply pw_below_drewN | apply below_drew1) | exact HB.out)) hb); clear HB; have HB := n0_; clear n0_; (try clear hb); (try clear hb2); (try clear hk); (try clear hi)) | ((with_reducible refine gate_callee (f := 42) rfl ?_); refine goesL_ (some 44) rfl rfl Try.func42 (by kernel_rfl) rfl #[.slice A0 l0.length c0, .slice A1 l1.length c1] rfl (by (try simp only [List.map_toArray, List.map_cons, List.map_nil]); first | done | rfl | (simp only [List.length_drop, List.length_take]; rfl)) ?_; (with_reducible refine (tartanref03_Same.calls kj6 _ _ l0 _ _ l1 t169 _ ?side1 ?side2 ?side3 ?side4 A15.out).mono ?_); (case side1 => repeat (first | exact (Kd.C_below HR0.out HB.out) | (with_reducible refine Kd.C_alloc ?_ _) | (with_reducible refine Kd.C_drewN ?_ _) | (with_reducible refine Kd.C_drew ?_))); (case side2 => exact HC0.out); (case side3 => repeat (first | exact (Kd.C_below HR1.out HB.out) | (with_reducible refine Kd.C_alloc ?_ _) | (with_reducible refine Kd.C_drewN ?_ _) | (with_reducible refine Kd.C_drew ?_))); (case side4 => exact HC1.out); rintro e w' ⟨rfl, ⟨nd, rfl⟩⟩; refine ⟨_, rfl, ?_⟩) | (go_at_call 46; (with_reducible refine (csv_Same.calls _ _ l0 _ _ l1 t170 _ ?side1 ?side2 ?side3 ?side4 A18.out).mono ?_); (case side1 => repeat (first | exact (Kd.C_below HR0.out (by repeat (first | (with_reducible first | exact HB.out | apply below_alloc | apply pw_below_drewN | apply below_drew1) | exact HB.out))) | (with_reducible refine Kd.C_alloc ?_ _) | (with_reducible refine Kd.C_drewN ?_ _) | (with_reducible refine Kd.C_drew ?_))); (case side2 => exact HC0.out); (case side3 => repeat (first | exact (Kd.C_below HR1.out (by repeat (first | (with_reducible first | exact HB.out | apply below_alloc | apply pw_below_drewN | apply below_drew1) | exact HB.out))) | (with_reducible refine Kd.C_alloc ?_ _) | (with_reducible refine Kd.C_drewN ?_ _) | (with_reducible refine Kd.C_drew ?_))); (case side4 => exact HC1.out); rintro e w' ⟨rfl, ⟨nd, rfl⟩⟩))
              go_ret
              exact ⟨by first | rfl | (simp [errW_none, errW_some] <;> rfl) | (simp [*, errW_none, errW_some] <;> rfl), by repeat (first | (with_reducible first | exact HB.out | apply below_alloc | apply pw_below_drewN | apply below_drew1) | exact HB.out)⟩
            · rw [if_neg c17] at H
              have c17b0 : (t166 == t168) = false := beq_eq_false_iff_ne.mpr c17
              have c17b1 : (t166 != t168) = true := bne_iff_ne.mpr c17
              obtain rfl := Option.some.inj H
              go_wp2_with (first | ((with_reducible refine gate_callee (f := 44) rfl ?_); refine goesL_ (some 32) rfl rfl Try.func44 (by kernel_rfl) rfl #[.slice A0 l0.length c0, .int .u8 a2, .bool a3] rfl (by (try simp only [List.map_toArray, List.map_cons, List.map_nil]); first | done | rfl | (simp only [List.length_drop, List.length_take]; rfl)) ?_; (with_reducible refine (csv_Print.calls _ _ l0 a2 a3 t165 t166 _ ?side1 ?side2 A13.out).mono ?_); (case side1 => repeat (first | exact (Kd.C_below HR0.out HB.out) | (with_reducible refine Kd.C_alloc ?_ _) | (with_reducible refine Kd.C_drewN ?_ _) | (with_reducible refine Kd.C_drew ?_))); (case side2 => exact HC0.out); rintro e w21 ⟨rfl, hb⟩; refine ⟨_, rfl, ?_⟩; have n0_ := Aside0.mk (below_step (by repeat (first | (with_reducible first | exact HB.out | apply below_alloc | apply pw_below_drewN | apply below_drew1) | exact HB.out)) hb); clear HB; have HB := n0_; clear n0_; (try clear hb); (try clear hb2); (try clear hk); (try clear hi)) | ((with_reducible refine gate_callee (f := 45) rfl ?_); refine goesL_ (some 39) rfl rfl Try.func45 (by kernel_rfl) rfl #[.slice A0 l0.length c0, .int .u8 a2, .bool a3] rfl (by (try simp only [List.map_toArray, List.map_cons, List.map_nil]); first | done | rfl | (simp only [List.length_drop, List.length_take]; rfl)) ?_; (with_reducible refine (tartanref03_Print.calls kj6 _ _ l0 a2 a3 t167 t168 _ ?side1 ?side2 A14.out).mono ?_); (case side1 => repeat (first | exact (Kd.C_below HR0.out HB.out) | (with_reducible refine Kd.C_alloc ?_ _) | (with_reducible refine Kd.C_drewN ?_ _) | (with_reducible refine Kd.C_drew ?_))); (case side2 => exact HC0.out); rintro e w22 ⟨rfl, hb⟩; refine ⟨_, rfl, ?_⟩; have n0_ := Aside0.mk (below_step (by repeat (first | (with_reducible first | exact HB.out | apply below_alloc | apply pw_below_drewN | apply below_drew1) | exact HB.out)) hb); clear HB; have HB := n0_; clear n0_; (try clear hb); (try clear hb2); (try clear hk); (try clear hi)) | ((with_reducible refine gate_callee (f := 42) rfl ?_); refine goesL_ (some 44) rfl rfl Try.func42 (by kernel_rfl) rfl #[.slice A0 l0.length c0, .slice A1 l1.length c1] rfl (by (try simp only [List.map_toArray, List.map_cons, List.map_nil]); first | done | rfl | (simp only [List.length_drop, List.length_take]; rfl)) ?_; (with_reducible refine (tartanref03_Same.calls kj6 _ _ l0 _ _ l1 t169 _ ?side1 ?side2 ?side3 ?side4 A15.out).mono ?_); (case side1 => repeat (first | exact (Kd.C_below HR0.out HB.out) | (with_reducible refine Kd.C_alloc ?_ _) | (with_reducible refine Kd.C_drewN ?_ _) | (with_reducible refine Kd.C_drew ?_))); (case side2 => exact HC0.out); (case side3 => repeat (first | exact (Kd.C_below HR1.out HB.out) | (with_reducible refine Kd.C_alloc ?_ _) | (with_reducible refine Kd.C_drewN ?_ _) | (with_reducible refine Kd.C_drew ?_))); (case side4 => exact HC1.out); rintro e w' ⟨rfl, ⟨nd, rfl⟩⟩; refine ⟨_, rfl, ?_⟩))
              go_ret
              exact ⟨by first | rfl | (simp [errW_none, errW_some] <;> rfl) | (simp [*, errW_none, errW_some] <;> rfl), by repeat (first | (with_reducible first | exact HB.out | apply below_alloc | apply pw_below_drewN | apply below_drew1) | exact HB.out)⟩
          · rw [if_neg c16] at H
            have c16b0 : (t165.toList == t167.toList) = false := beq_eq_false_iff_ne.mpr c16
            have c16b1 : (t165.toList != t167.toList) = true := bne_iff_ne.mpr c16
            obtain rfl := Option.some.inj H
            go_wp2_with (first | ((with_reducible refine gate_callee (f := 44) rfl ?_); refine goesL_ (some 32) rfl rfl Try.func44 (by kernel_rfl) rfl #[.slice A0 l0.length c0, .int .u8 a2, .bool a3] rfl (by (try simp only [List.map_toArray, List.map_cons, List.map_nil]); first | done | rfl | (simp only [List.length_drop, List.length_take]; rfl)) ?_; (with_reducible refine (csv_Print.calls _ _ l0 a2 a3 t165 t166 _ ?side1 ?side2 A13.out).mono ?_); (case side1 => repeat (first | exact (Kd.C_below HR0.out HB.out) | (with_reducible refine Kd.C_alloc ?_ _) | (with_reducible refine Kd.C_drewN ?_ _) | (with_reducible refine Kd.C_drew ?_))); (case side2 => exact HC0.out); rintro e w23 ⟨rfl, hb⟩; refine ⟨_, rfl, ?_⟩; have n0_ := Aside0.mk (below_step (by repeat (first | (with_reducible first | exact HB.out | apply below_alloc | apply pw_below_drewN | apply below_drew1) | exact HB.out)) hb); clear HB; have HB := n0_; clear n0_; (try clear hb); (try clear hb2); (try clear hk); (try clear hi)) | ((with_reducible refine gate_callee (f := 45) rfl ?_); refine goesL_ (some 39) rfl rfl Try.func45 (by kernel_rfl) rfl #[.slice A0 l0.length c0, .int .u8 a2, .bool a3] rfl (by (try simp only [List.map_toArray, List.map_cons, List.map_nil]); first | done | rfl | (simp only [List.length_drop, List.length_take]; rfl)) ?_; (with_reducible refine (tartanref03_Print.calls kj6 _ _ l0 a2 a3 t167 t168 _ ?side1 ?side2 A14.out).mono ?_); (case side1 => repeat (first | exact (Kd.C_below HR0.out HB.out) | (with_reducible refine Kd.C_alloc ?_ _) | (with_reducible refine Kd.C_drewN ?_ _) | (with_reducible refine Kd.C_drew ?_))); (case side2 => exact HC0.out); rintro e w24 ⟨rfl, hb⟩; refine ⟨_, rfl, ?_⟩; have n0_ := Aside0.mk (below_step (by repeat (first | (with_reducible first | exact HB.out | apply below_alloc | apply pw_below_drewN | apply below_drew1) | exact HB.out)) hb); clear HB; have HB := n0_; clear n0_; (try clear hb); (try clear hb2); (try clear hk); (try clear hi)) | ((with_reducible refine gate_callee (f := 42) rfl ?_); refine goesL_ (some 44) rfl rfl Try.func42 (by kernel_rfl) rfl #[.slice A0 l0.length c0, .slice A1 l1.length c1] rfl (by (try simp only [List.map_toArray, List.map_cons, List.map_nil]); first | done | rfl | (simp only [List.length_drop, List.length_take]; rfl)) ?_; (with_reducible refine (tartanref03_Same.calls kj6 _ _ l0 _ _ l1 t169 _ ?side1 ?side2 ?side3 ?side4 A15.out).mono ?_); (case side1 => repeat (first | exact (Kd.C_below HR0.out HB.out) | (with_reducible refine Kd.C_alloc ?_ _) | (with_reducible refine Kd.C_drewN ?_ _) | (with_reducible refine Kd.C_drew ?_))); (case side2 => exact HC0.out); (case side3 => repeat (first | exact (Kd.C_below HR1.out HB.out) | (with_reducible refine Kd.C_alloc ?_ _) | (with_reducible refine Kd.C_drewN ?_ _) | (with_reducible refine Kd.C_drew ?_))); (case side4 => exact HC1.out); rintro e w' ⟨rfl, ⟨nd, rfl⟩⟩; refine ⟨_, rfl, ?_⟩))
            go_ret
            exact ⟨by first | rfl | (simp [errW_none, errW_some] <;> rfl) | (simp [*, errW_none, errW_some] <;> rfl), by repeat (first | (with_reducible first | exact HB.out | apply below_alloc | apply pw_below_drewN | apply below_drew1) | exact HB.out)⟩
        · replace c12 := Bool.eq_false_iff.mpr c12
          subst c12
          have H1 : (some true) = some r := by rw [if_neg (show ¬ (false = true) by decide)] at H; exact H
          clear H
          have H := H1
          clear H1
          obtain rfl := Option.some.inj H
          go_wp2
          go_ret
          exact ⟨by first | rfl | (simp [errW_none, errW_some] <;> rfl) | (simp [*, errW_none, errW_some] <;> rfl), by repeat (first | (with_reducible first | exact HB.out | apply below_alloc | apply pw_below_drewN | apply below_drew1) | exact HB.out)⟩
  · replace c6 := Bool.eq_false_iff.mpr c6
    subst c6
    have H1 : (some false) = some r := by rw [if_neg (show ¬ (false = true) by decide)] at H; exact H
    clear H
    have H := H1
    clear H1
    obtain rfl := Option.some.inj H
    go_enter Try.func13, Try.ntmps13
    go_wp2_with (first | ((with_reducible refine gate_callee (f := 39) rfl ?_); refine goesL_ (some 16) rfl rfl Try.func39 (by kernel_rfl) rfl #[] rfl (by (try simp only [List.map_toArray, List.map_cons, List.map_nil]); first | done | rfl | (simp only [List.length_drop, List.length_take]; rfl)) ?_; (with_reducible refine (tartanlaw03_works.calls  false _ A5.out).mono ?_); rintro e w25 ⟨rfl, hb⟩; refine ⟨_, rfl, ?_⟩; have n0_ := Aside0.mk (below_step (by repeat (first | (with_reducible first | exact HB.out | apply below_alloc | apply pw_below_drewN | apply below_drew1) | exact HB.out)) hb); clear HB; have HB := n0_; clear n0_; (try clear hb); (try clear hb2); (try clear hk); (try clear hi)))
    go_ret
    exact ⟨by first | rfl | (simp [errW_none, errW_some] <;> rfl) | (simp [*, errW_none, errW_some] <;> rfl), by repeat (first | (with_reducible first | exact HB.out | apply below_alloc | apply pw_below_drewN | apply below_drew1) | exact HB.out)⟩

end Go.Proofs.Ytggodagdfldndaa.Q.L.Z

/-! What csv.Print prints: the records as they are written, if all are such as csv takes. No program in sight. -/
namespace Go.Proofs.Ytggodagdfldndaa.Q.L
open Go.RowKit
theorem tooBig_false (r : List ByteArray) : tooBig r = false ↔ r.length ≤ 128 ∧ ∀ y ∈ r, y.size ≤ 4096 := by
  unfold tooBig
  rw [Bool.or_eq_false_iff, List.any_eq_false, decide_eq_false_iff_not]
  constructor
  · rintro ⟨h1, h2⟩
    refine ⟨by omega, fun y hy => ?_⟩
    have := h2 y hy
    unfold bigger at this
    simp only [decide_eq_true_eq] at this
    omega
  · rintro ⟨h1, h2⟩
    refine ⟨by omega, fun y hy => ?_⟩
    have := h2 y hy
    unfold bigger
    simp only [decide_eq_true_eq]
    omega
theorem printLoop_good (c : UInt8) (crlf : Bool) : ∀ (l : List (List ByteArray)) (e : Int) (acc : Bs), (∀ r ∈ l, RowOk r) → printLoop c crlf l e acc = (e, acc ++ recsR c.toNat c (l.map fun r => (r, crlf)))
  | [], e, acc, _ => by simp [printLoop, recsR]
  | r :: l, e, acc, h => by
    obtain ⟨h1, h2, h3⟩ := h r (by simp)
    rw [printLoop, if_neg (fun e => h1 (List.length_eq_zero_iff.1 e)), if_neg (by rw [(tooBig_false r).2 ⟨h2, h3⟩]; decide), printLoop_good c crlf l e _ (fun q hq => h q (List.mem_cons_of_mem _ hq))]
    rw [List.map_cons, recsR]
    simp [writeB, cells]
theorem printLoop_ok (c : UInt8) (crlf : Bool) : ∀ (l : List (List ByteArray)) (e : Int) (acc : Bs), (printLoop c crlf l e acc).1 = 0 → e = 0 ∧ ∀ r ∈ l, RowOk r
  | [], e, acc, h => ⟨h, by simp⟩
  | r :: l, e, acc, h => by
    rw [printLoop] at h
    split at h
    · cases h
    · rename_i h1
      split at h
      · have := (printLoop_ok c crlf l _ _ h).1
        cases this
      · rename_i h2
        obtain ⟨g1, g2⟩ := printLoop_ok c crlf l _ _ h
        refine ⟨g1, fun q hq => ?_⟩
        rcases List.mem_cons.1 hq with rfl | hq
        · obtain ⟨a1, a2⟩ := (tooBig_false q).1 (by simpa using h2)
          exact ⟨fun e => h1 (by rw [e]; rfl), a1, a2⟩
        · exact g2 q hq
/-- Records that are printed: their text. -/
def textR (d : Int) (crlf : Bool) (l : List (List ByteArray)) : Bs := recsR d (UInt8.ofNat d.toNat) (l.map fun r => (r, crlf))
theorem byteI {d : Int} (h : (Lit.int .u8 d).wf = true) : ((UInt8.ofNat d.toNat).toNat : Int) = d := by
  obtain ⟨c, rfl⟩ := delim_byte d h
  simp
theorem byteI0 {d : Int} (h : (Lit.int .u8 d).wf = true) : 0 ≤ d ∧ d ≤ 255 := by
  obtain ⟨c, rfl⟩ := delim_byte d h
  have := c.toNat_lt
  omega
theorem printF_ok (l : List (List ByteArray)) (d : Int) (crlf : Bool) (hd : (Lit.int .u8 d).wf = true) (s : ByteArray) (h : printF l d crlf = (s, 0)) : goodI d = true ∧ (∀ r ∈ l, RowOk r) ∧ l.length ≤ 2048 ∧ s = ofBs (textR d crlf l) := by
  have hb := byteI hd
  cases hg : goodI d with
  | false => unfold printF at h; rw [hg, if_neg (by decide)] at h; simp at h
  | true =>
    obtain ⟨⟨e, acc⟩, hp⟩ : ∃ p, printLoop (UInt8.ofNat d.toNat) crlf l (if 2048 < l.length then 7 else 0) [] = p := ⟨_, rfl⟩
    rw [print_post l d crlf e acc hg hp] at h
    by_cases h0 : e = 0
    · subst h0
      obtain ⟨g1, g2⟩ := printLoop_ok _ _ _ _ _ (by rw [hp])
      have hl : l.length ≤ 2048 := by
        by_cases e : 2048 < l.length
        · rw [if_pos e] at g1; cases g1
        · omega
      rw [printLoop_good _ _ _ _ _ g2, List.nil_append, hb] at hp
      rw [if_pos rfl] at h
      split at h
      · simp at h
      · refine ⟨rfl, g2, hl, ?_⟩
        rw [← (Prod.mk.inj h).1, ← (Prod.mk.inj hp).2]; rfl
    · rw [if_neg h0] at h
      exact absurd (Prod.mk.inj h).2 h0
theorem printF_bad (l : List (List ByteArray)) (d : Int) (crlf : Bool) (s : ByteArray) (e : Int) (h : printF l d crlf = (s, e)) (he : e ≠ 0) : s = ⟨#[]⟩ := by
  cases hg : goodI d with
  | false => unfold printF at h; rw [hg, if_neg (by decide)] at h; exact (Prod.mk.inj h).1.symm
  | true =>
    obtain ⟨⟨e2, acc⟩, hp⟩ : ∃ p, printLoop (UInt8.ofNat d.toNat) crlf l (if 2048 < l.length then 7 else 0) [] = p := ⟨_, rfl⟩
    rw [print_post l d crlf e2 acc hg hp] at h
    split at h
    · split at h
      · exact (Prod.mk.inj h).1.symm
      · exact absurd (Prod.mk.inj h).2.symm he
    · exact (Prod.mk.inj h).1.symm
theorem printF_good (l : List (List ByteArray)) (d : Int) (crlf : Bool) (hd : (Lit.int .u8 d).wf = true) (hg : goodI d = true) (hr : ∀ r ∈ l, RowOk r) (hl : l.length ≤ 2048) (hs : (textR d crlf l).length ≤ 4194304) : printF l d crlf = (ofBs (textR d crlf l), 0) := by
  have hb := byteI hd
  have hp := printLoop_good (UInt8.ofNat d.toNat) crlf l (if 2048 < l.length then 7 else 0) [] hr
  have e0 : (if 2048 < l.length then (7 : Int) else 0) = 0 := if_neg (by omega)
  rw [print_post l d crlf _ _ hg hp, if_pos e0, List.nil_append, hb, if_neg (by unfold textR at hs; omega)]
  rfl
theorem print_f (l : List (List ByteArray)) (d : Int) (crlf : Bool) (hd : (Lit.int .u8 d).wf = true) (hl : l.length ≤ 5000) : csv_Print.f l d crlf = some (printF l d crlf) := by
  obtain ⟨h1, h2⟩ := byteI0 hd
  unfold csv_Print.f
  rw [if_pos ⟨hl, h1, h2⟩]
/-- What is printed is parsed back. -/
theorem text_back (l : List (List ByteArray)) (d : Int) (crlf : Bool) (hd : (Lit.int .u8 d).wf = true) (hg : goodI d = true) (hr : ∀ r ∈ l, RowOk r) (hl : l.length ≤ 2048) : parseF (textR d crlf l) d = (l, 0, 0) := by
  have := parse_rows d (UInt8.ofNat d.toNat) (byteI hd) hg (l.map fun r => (r, crlf)) (by
    intro p hp
    obtain ⟨r, hr2, rfl⟩ := List.mem_map.1 hp
    exact hr r hr2) (by rw [List.length_map]; exact hl)
  unfold textR
  rw [this, List.map_map]
  rw [show (Prod.fst ∘ fun r => ((r, crlf) : List ByteArray × Bool)) = id from rfl, List.map_id]
end Go.Proofs.Ytggodagdfldndaa.Q.L

/-! What the printed Lean functions of chapter 3 come to, with enough rounds; the document's examples hold. -/
namespace Go.Proofs.Ytggodagdfldndaa.Q.L.Z
open Go.RowKit Go.Proofs.YtggodagdfldndaaW.PrintWords Go.Proofs.YtggodagdfldndaaW.PrintLast Go.Proofs.Ytggodagdfldndaa.Q.L Go.Proofs.Ytggodagdfldndaa.Q
theorem parse_f (s : ByteArray) (d : Int) (hs : s.size ≤ 1048576) : csv_Parse.f s d = some (parseF (toBs s) d) := by
  unfold csv_Parse.f; rw [if_pos hs]
theorem works03 : tartanlaw03_works.f = some true := by
  unfold tartanlaw03_works.f
  rw [parse_f _ _ (by decide), parse_f _ _ (by decide), parse_f _ _ (by decide), print_f _ _ _ (by decide) (by decide)]
  decide +kernel
theorem rd_nat (l : List (List ByteArray)) (i : Nat) (h : i < l.length) : rd_L1 l (i : Int) = l[i] := by
  unfold rd_L1
  simp [h]
/-! ### are records alike? -/
theorem row_l0 (a b : List ByteArray) (hl : a.length = b.length) (hb : a.length ≤ 1000000) : ∀ (m k i : Nat), i + m = a.length → m < k → a.take i = b.take i → tartanref03_Row.l0 k a b i = some (decide (a = b)) := by
  intro m
  induction m with
  | zero =>
    intro k i hi hk he
    obtain ⟨k, rfl⟩ : ∃ q, k = q + 1 := ⟨k - 1, by omega⟩
    simp only [tartanref03_Row.l0]
    rw [List.take_of_length_le (by omega), List.take_of_length_le (by omega)] at he
    rw [if_neg (by omega), he]; simp
  | succ m ih =>
    intro k i hi hk he
    obtain ⟨k, rfl⟩ : ∃ q, k = q + 1 := ⟨k - 1, by omega⟩
    have h1 : i < a.length := by omega
    have h2 : i < b.length := by omega
    simp only [tartanref03_Row.l0]
    rw [if_pos (by omega), if_pos (by omega), if_pos (by omega), rdOf_nat a i h1, rdOf_nat b i h2, toList_toBs, toList_toBs]
    by_cases e : a[i] = b[i]
    · rw [if_pos (by rw [e]), show wrap64 ((i : Int) + 1) = ((i + 1 : Nat) : Int) from wrap_nat i 1 (by omega)]
      refine ih k (i + 1) (by omega) (by omega) ?_
      rw [List.take_add_one, List.take_add_one, he, List.getElem?_eq_getElem h1, List.getElem?_eq_getElem h2, e]
    · rw [if_neg (fun h => e (by rw [← ofBs_toBs a[i], h, ofBs_toBs])), decide_eq_false (fun h => e (by subst h; rfl))]
theorem row_f (a b : List ByteArray) (hb : a.length ≤ 1000000) (k : Nat) (hk : a.length < k) : tartanref03_Row.f k a b = some (decide (a = b)) := by
  unfold tartanref03_Row.f
  by_cases h : a.length = b.length
  · rw [if_pos (by omega)]
    exact row_l0 a b h hb a.length k 0 (by omega) hk (by simp)
  · rw [if_neg (by omega), decide_eq_false (fun e => h (by rw [e]))]
theorem same_l0 (a b : List (List ByteArray)) (hl : a.length = b.length) (hb : a.length ≤ 1000000) (B : Nat) (hB : ∀ r ∈ a, r.length ≤ B) (hB2 : B ≤ 1000000) : ∀ (m k i : Nat), i + m = a.length → m + B + 1 < k → a.take i = b.take i → tartanref03_Same.l0 k a b i = some (decide (a = b)) := by
  intro m
  induction m with
  | zero =>
    intro k i hi hk he
    obtain ⟨k, rfl⟩ : ∃ q, k = q + 1 := ⟨k - 1, by omega⟩
    simp only [tartanref03_Same.l0]
    rw [List.take_of_length_le (by omega), List.take_of_length_le (by omega)] at he
    rw [if_neg (by omega), he]; simp
  | succ m ih =>
    intro k i hi hk he
    obtain ⟨k, rfl⟩ : ∃ q, k = q + 1 := ⟨k - 1, by omega⟩
    have h1 : i < a.length := by omega
    have h2 : i < b.length := by omega
    have h3 := hB a[i] (List.getElem_mem h1)
    simp only [tartanref03_Same.l0]
    rw [if_pos (by omega), if_pos (by omega), if_pos (by omega), rd_nat a i h1, rd_nat b i h2, row_f _ _ (by omega) k (by omega), Option.bind_some]
    by_cases e : a[i] = b[i]
    · rw [if_pos (decide_eq_true e), show wrap64 ((i : Int) + 1) = ((i + 1 : Nat) : Int) from wrap_nat i 1 (by omega)]
      refine ih k (i + 1) (by omega) (by omega) ?_
      rw [List.take_add_one, List.take_add_one, he, List.getElem?_eq_getElem h1, List.getElem?_eq_getElem h2, e]
    · rw [if_neg (by rw [decide_eq_false e]; decide), decide_eq_false (fun h => e (by subst h; rfl))]
theorem same_f (a b : List (List ByteArray)) (hb : a.length ≤ 1000000) (B : Nat) (hB : ∀ r ∈ a, r.length ≤ B) (hB2 : B ≤ 1000000) (k : Nat) (hk : a.length + B + 1 < k) : tartanref03_Same.f k a b = some (decide (a = b)) := by
  unfold tartanref03_Same.f
  by_cases h : a.length = b.length
  · rw [if_pos (by omega)]
    exact same_l0 a b h hb B hB hB2 a.length k 0 (by omega) hk (by simp)
  · rw [if_neg (by omega), decide_eq_false (fun e => h (by rw [e]))]
/-! ### are they few? -/
/-- How many bytes cells count for. -/
def weigh : List ByteArray → Nat
  | [] => 0
  | x :: r => x.size + 1 + weigh r
def weighL : List (List ByteArray) → Nat
  | [] => 0
  | r :: l => weigh r + weighL l
/-- So few that they are looked at. -/
def FewP (l : List (List ByteArray)) : Prop := l.length ≤ 60 ∧ (∀ r ∈ l, r.length ≤ 60) ∧ weighL l ≤ 8000
def Sized (l : List (List ByteArray)) : Prop := ∀ r ∈ l, ∀ x ∈ r, x.size ≤ 140737488351232
theorem weigh_take (r : List ByteArray) (j : Nat) (h : j < r.length) : weigh (r.take (j + 1)) = weigh (r.take j) + (r[j].size + 1) := by
  induction r generalizing j with
  | nil => cases h
  | cons x r ih =>
    cases j with
    | zero => simp [weigh]
    | succ j =>
      have := ih j (by simpa using h)
      simp only [List.take_succ_cons, weigh, List.getElem_cons_succ, this]
      omega
theorem weighL_take (l : List (List ByteArray)) (i : Nat) (h : i < l.length) : weighL (l.take (i + 1)) = weighL (l.take i) + weigh l[i] := by
  induction l generalizing i with
  | nil => cases h
  | cons x r ih =>
    cases i with
    | zero => simp [weighL]
    | succ i =>
      have := ih i (by simpa using h)
      simp only [List.take_succ_cons, weighL, List.getElem_cons_succ, this]
      omega
theorem few_step (n s : Nat) (hn : n ≤ 8000) (hs : s ≤ 140737488351232) : wrap64 (wrap64 ((n : Int) + (s : Int)) + 1) = ((n + s + 1 : Nat) : Int) := by
  unfold wrap64; omega
/-- Few's two loops: true only if all that follows is few. -/
theorem few_loops (l : List (List ByteArray)) (hl : l.length ≤ 60) (hs : Sized l) : ∀ (m : Nat),
    (∀ (k i n : Nat), i + m = l.length → m * 62 + 1 < k → n = weighL (l.take i) → n ≤ 8000 → (∀ r ∈ l.take i, r.length ≤ 60) → ∃ b, tartanref03_Few.l0 k l (n : Int) (i : Int) = some b ∧ (b = true → FewP l)) := by
  intro m
  induction m with
  | zero =>
    intro k i n hi hk hn hn2 hr
    obtain ⟨k, rfl⟩ : ∃ q, k = q + 1 := ⟨k - 1, by omega⟩
    refine ⟨true, ?_, fun _ => ?_⟩
    · simp only [tartanref03_Few.l0]
      rw [if_neg (by omega)]
    · rw [List.take_of_length_le (by omega)] at hn hr
      exact ⟨hl, hr, by omega⟩
  | succ m ih =>
    intro k i n hi hk hn hn2 hr
    obtain ⟨k, rfl⟩ : ∃ q, k = q + 1 := ⟨k - 1, by omega⟩
    have h1 : i < l.length := by omega
    simp only [tartanref03_Few.l0]
    rw [if_pos (by omega), if_pos (by omega), rd_nat l i h1]
    by_cases h60 : (l[i].length : Int) > 60
    · exact ⟨false, by rw [if_pos h60], fun h => by cases h⟩
    · rw [if_neg h60]
      have inner : ∀ (m2 k2 j n2 : Nat), j + m2 = l[i].length → m * 62 + m2 + 2 < k2 → n2 = weighL (l.take i) + weigh (l[i].take j) → n2 ≤ 8000 → ∃ b, tartanref03_Few.l1 k2 l (n2 : Int) (i : Int) (j : Int) = some b ∧ (b = true → FewP l) := by
        intro m2
        induction m2 with
        | zero =>
          intro k2 j n2 hj hk2 hn3 hn4
          obtain ⟨k2, rfl⟩ : ∃ q, k2 = q + 1 := ⟨k2 - 1, by omega⟩
          simp only [tartanref03_Few.l1]
          rw [if_pos (by omega), if_pos (by omega), rd_nat l i h1, if_neg (by omega), show wrap64 ((i : Int) + 1) = ((i + 1 : Nat) : Int) from wrap_nat i 1 (by omega)]
          refine ih k2 (i + 1) n2 (by omega) (by omega) ?_ hn4 ?_
          · rw [weighL_take l i h1, hn3, show l[i].take j = l[i] from List.take_of_length_le (by omega)]
          · intro r hr2
            rw [List.take_add_one, List.getElem?_eq_getElem h1] at hr2
            simp only [Option.toList_some, List.mem_append, List.mem_singleton] at hr2
            rcases hr2 with hr2 | rfl
            · exact hr r hr2
            · omega
        | succ m2 ih2 =>
          intro k2 j n2 hj hk2 hn3 hn4
          obtain ⟨k2, rfl⟩ : ∃ q, k2 = q + 1 := ⟨k2 - 1, by omega⟩
          have h2 : j < l[i].length := by omega
          have hsz := hs l[i] (List.getElem_mem h1) l[i][j] (List.getElem_mem h2)
          simp only [tartanref03_Few.l1]
          rw [if_pos (by omega), if_pos (by omega), rd_nat l i h1, if_pos (by omega), if_pos (by omega), rdOf_nat _ j h2]
          rw [few_step n2 l[i][j].size hn4 hsz]
          by_cases h8 : ((n2 + l[i][j].size + 1 : Nat) : Int) > 8000
          · exact ⟨false, by rw [if_pos h8], fun h => by cases h⟩
          · rw [if_neg h8, show wrap64 ((j : Int) + 1) = ((j + 1 : Nat) : Int) from wrap_nat j 1 (by omega)]
            exact ih2 k2 (j + 1) _ (by omega) (by omega) (by rw [weigh_take _ j h2, hn3]; omega) (by omega)
      exact inner l[i].length k 0 n (by omega) (by omega) (by rw [hn]; simp [weigh]) hn2
theorem few_f (l : List (List ByteArray)) (hs : Sized l) (k : Nat) (hk : 4000 < k) : ∃ b, tartanref03_Few.f k l = some b ∧ (b = true → FewP l) := by
  unfold tartanref03_Few.f
  by_cases h : (l.length : Int) > 60
  · exact ⟨false, by rw [if_pos h], fun h => by cases h⟩
  · rw [if_neg h]
    exact few_loops l (by omega) hs l.length k 0 0 (by omega) (by omega) rfl (by omega) (by simp)
end Go.Proofs.Ytggodagdfldndaa.Q.L.Z

/-! Few records have short texts. No program in sight. -/
namespace Go.Proofs.Ytggodagdfldndaa.Q.L.Z
open Go.RowKit Go.Proofs.Ytggodagdfldndaa.Q.L
theorem costR_weigh (d : Int) : ∀ r : List ByteArray, costR d r ≤ 3 * weigh r
  | [] => Nat.le_refl _
  | x :: r => by
    have h1 := costR_weigh d r
    have h2 := put_length (toBs x) d
    rw [size_toBs] at h2
    simp only [costR, weigh]
    omega
theorem costL_weigh (d : Int) : ∀ l : List (List ByteArray), costL d l ≤ 3 * weighL l
  | [] => Nat.le_refl _
  | r :: l => by
    have h1 := costL_weigh d l
    have h2 := costR_weigh d r
    simp only [costL, weighL]
    omega
theorem textR_length (d : Int) (crlf : Bool) (l : List (List ByteArray)) (hr : ∀ r ∈ l, RowOk r) : (textR d crlf l).length = costL d l + (if crlf = true then l.length else 0) := recsR_cost d _ crlf l hr
theorem few_text (d : Int) (crlf : Bool) (l : List (List ByteArray)) (hf : FewP l) (hr : ∀ r ∈ l, RowOk r) : (textR d crlf l).length ≤ 24060 := by
  have h1 := textR_length d crlf l hr
  have h2 := costL_weigh d l
  obtain ⟨h3, _, h4⟩ := hf
  rw [h1]
  split <;> omega
end Go.Proofs.Ytggodagdfldndaa.Q.L.Z

/-! The reference's text of records, if they are few: the same as csv.Print's. -/
namespace Go.Proofs.Ytggodagdfldndaa.Q.L.Z
open Go.RowKit Go.Proofs.YtggodagdfldndaaW.PrintWords Go.Proofs.YtggodagdfldndaaW.PrintLast Go.Proofs.Ytggodagdfldndaa.Q.L Go.Proofs.Ytggodagdfldndaa.Q
theorem write_l0_big (c : UInt8) (l : List ByteArray) (crlf : Bool) (hl : l.length ≤ 60) (hs : Small l 8000) : ∀ (m k i : Nat) (acc : Bs), i + m = l.length → 1 ≤ i → 8000 + m + 1 < k → acc.length ≤ i * 16003 →
    tartanref02_Write.l0 k l (c.toNat : Int) crlf (ofBs acc) i = some (ofBs (acc ++ tailR c.toNat c (l.drop i) ++ brk crlf)) := by
  intro m
  induction m with
  | zero =>
    intro k i acc hi h1 hk ha
    obtain ⟨k, rfl⟩ : ∃ q, k = q + 1 := ⟨k - 1, by omega⟩
    simp only [tartanref02_Write.l0]
    have := Nat.mul_le_mul_right 16003 (show i ≤ 60 by omega)
    rw [if_neg (by omega), List.drop_eq_nil_of_le (by omega), show tailR (c.toNat : Int) c [] = [] from rfl, List.append_nil, ofBs_append]
    cases crlf with
    | true => rw [if_pos rfl, if_pos (by rw [size_ofBs]; omega)]; rfl
    | false => rw [if_neg (by decide), if_pos (by rw [size_ofBs]; omega)]; rfl
  | succ m ih =>
    intro k i acc hi h1 hk ha
    obtain ⟨k, rfl⟩ : ∃ q, k = q + 1 := ⟨k - 1, by omega⟩
    have hlt : i < l.length := by omega
    have hx : l[i].size ≤ 8000 := hs _ (List.getElem_mem hlt)
    have hp := put_length (toBs l[i]) c.toNat
    rw [size_toBs] at hp
    have := Nat.mul_le_mul_right 16003 (show i ≤ 60 by omega)
    simp only [tartanref02_Write.l0]
    rw [if_pos (by omega), if_pos (by omega), Option.bind_some, strOfNums_one, if_pos (by rw [size_ofBs, size_ofBs]; simp; omega), if_pos (by omega), rdOf_nat l i hlt, ref01_Put_f _ _ (by omega) k (by omega), Option.bind_some,
      ← ofBs_append, if_pos (by rw [size_ofBs, size_ofBs]; simp; omega), ← ofBs_append, show wrap64 ((i : Int) + 1) = ((i + 1 : Nat) : Int) from wrap_nat i 1 (by omega), ih k (i + 1) _ (by omega) (by omega) (by omega) (by simp; omega)]
    rw [List.drop_eq_getElem_cons hlt, tailR_cons]
    simp
theorem write_big (c : UInt8) (l : List ByteArray) (crlf : Bool) (hl : l.length ≤ 60) (hs : Small l 8000) (k : Nat) (hk : 8000 + l.length + 2 < k) : tartanref02_Write.f k l (c.toNat : Int) crlf = some (ofBs (writeB c l crlf)) := by
  unfold tartanref02_Write.f writeB
  obtain ⟨k, rfl⟩ : ∃ q, k = q + 1 := ⟨k - 1, by omega⟩
  simp only [tartanref02_Write.l0]
  cases l with
  | nil => cases crlf <;> rfl
  | cons x r =>
    have hx : x.size ≤ 8000 := hs x (by simp)
    have hp := put_length (toBs x) c.toNat
    rw [size_toBs] at hp
    rw [if_pos (by simp), if_neg (by omega), if_pos (by omega), show rdOf ByteArray.empty (x :: r) 0 = x from rfl, ref01_Put_f _ _ (by omega) k (by omega), Option.bind_some,
      if_pos (by rw [size_ofBs, show (⟨#[]⟩ : ByteArray).size = 0 from rfl]; omega), show (⟨#[]⟩ : ByteArray) ++ ofBs (put (toBs x) c.toNat) = ofBs (put (toBs x) c.toNat) from by rw [show (⟨#[]⟩ : ByteArray) = ofBs [] from rfl, ← ofBs_append]; rfl,
      show wrap64 ((0 : Int) + 1) = ((1 : Nat) : Int) from wrap_nat 0 1 (by omega)]
    have := write_l0_big c (x :: r) crlf hl hs r.length k 1 (put (toBs x) c.toNat) (by simp; omega) (by omega) (by simp at hk ⊢; omega) (by omega)
    rw [this, rowR_tail]; rfl
/-- What is made of what the loop gives. -/
def fin (p : Int × Bs) : ByteArray × Int := if p.1 = 0 then (if 4194304 < p.2.length then (⟨#[]⟩, 7) else (ofBs p.2, 0)) else (⟨#[]⟩, p.1)
def big (r : List ByteArray) (j : Nat) : Bool := (r.drop j).any (bigger 4096)
theorem big_step (r : List ByteArray) (j : Nat) (h : j < r.length) : big r j = (bigger 4096 r[j] || big r (j + 1)) := by
  unfold big
  rw [List.drop_eq_getElem_cons h, List.any_cons]
theorem weigh_mem (r : List ByteArray) : ∀ x ∈ r, x.size + 1 ≤ weigh r := by
  induction r with
  | nil => simp
  | cons y r ih =>
    intro x hx
    simp only [weigh]
    rcases List.mem_cons.1 hx with rfl | hx
    · omega
    · have := ih x hx; omega
theorem weighL_mem (l : List (List ByteArray)) : ∀ r ∈ l, weigh r ≤ weighL l := by
  induction l with
  | nil => simp
  | cons y r ih =>
    intro x hx
    simp only [weighL]
    rcases List.mem_cons.1 hx with rfl | hx
    · omega
    · have := ih x hx; omega
theorem writeB_small (c : UInt8) (r : List ByteArray) (crlf : Bool) (hr : r.length ≤ 60) (hs : Small r 8000) : (writeB c r crlf).length ≤ 961000 := by
  have hlen := rowR_length (c.toNat : Int) c 8000 (cells r) (by
    intro x hx
    obtain ⟨y, hy, rfl⟩ := List.mem_map.1 hx
    rw [size_toBs]; exact hs y hy)
  have h2 : (cells r).length * (2 * 8000 + 3) ≤ 60 * (2 * 8000 + 3) := Nat.mul_le_mul_right _ (by simp only [cells, List.length_map]; exact hr)
  have h3 : (brk crlf).length ≤ 2 := by cases crlf <;> decide
  unfold writeB
  rw [List.length_append]
  omega
theorem refprint (l : List (List ByteArray)) (c : UInt8) (crlf : Bool) (hf : FewP l) : ∀ (m k i : Nat) (x8 : Bool) (x9 acc : Bs), i + m = l.length → 8100 + m * 70 < k → x9.length ≤ i * 961000 → (x8 = false → acc = x9) →
    tartanref03_Print.l0 k l (c.toNat : Int) crlf x8 (ofBs x9) (i : Int) = some (fin (printLoop c crlf (l.drop i) (if x8 = true then 7 else 0) acc)) := by
  intro m
  induction m with
  | zero =>
    intro k i x8 x9 acc hi hk hx9 hacc
    obtain ⟨k, rfl⟩ : ∃ q, k = q + 1 := ⟨k - 1, by omega⟩
    have hl := hf.1
    have := Nat.mul_le_mul_right 961000 (show i ≤ 60 by omega)
    rw [tartanref03_Print.l0, if_neg (by omega), List.drop_eq_nil_of_le (by omega), printLoop]
    unfold fin
    cases x8 with
    | true => rw [if_pos rfl]; rfl
    | false =>
      rw [hacc rfl, if_neg (by decide), size_ofBs]
      dsimp only
      rw [if_pos (if_neg (by decide))]
      by_cases h : 4194304 < x9.length
      · rw [if_pos (by omega), if_pos h]
      · rw [if_neg (by omega), if_neg h]
  | succ m ih =>
    intro k i x8 x9 acc hi hk hx9 hacc
    obtain ⟨k, rfl⟩ : ∃ q, k = q + 1 := ⟨k - 1, by omega⟩
    have hlt : i < l.length := by omega
    have hl := hf.1
    have hr60 := hf.2.1 l[i] (List.getElem_mem hlt)
    have hw := weighL_mem l l[i] (List.getElem_mem hlt)
    have hsm : Small l[i] 8000 := fun x hx => by have := weigh_mem l[i] x hx; have := hf.2.2; omega
    have hwb := writeB_small c l[i] crlf hr60 hsm
    have hmul := Nat.mul_le_mul_right 961000 (show i ≤ 60 by omega)
    rw [printLoop_step c crlf l i hlt _ _ l[i] (by simp [hlt])]
    rw [tartanref03_Print.l0, if_pos (by omega), if_pos (by omega), rd_nat l i hlt]
    by_cases h0 : l[i].length = 0
    · rw [if_pos (by omega), if_pos h0]; rfl
    · rw [if_neg (by omega), if_neg h0]
      have h128 : decide (((l[i].length : Nat) : Int) > 128) = false := decide_eq_false (by omega)
      rw [h128]
      have htb : tooBig l[i] = big l[i] 0 := by
        unfold tooBig big
        rw [decide_eq_false (by omega), Bool.false_or, List.drop_zero]
      have inner : ∀ (m2 k2 j : Nat) (y8 : Bool), j + m2 = l[i].length → 8062 + m * 70 + m2 + 3 < k2 → 
          tartanref03_Print.l1 k2 l (c.toNat : Int) crlf y8 (ofBs x9) (i : Int) (j : Int) = tartanref03_Print.l1 (k2 - m2) l (c.toNat : Int) crlf (y8 || big l[i] j) (ofBs x9) (i : Int) (l[i].length : Int) := by
        intro m2
        induction m2 with
        | zero =>
          intro k2 j y8 hj hk2
          have : big l[i] j = false := by unfold big; rw [List.drop_eq_nil_of_le (by omega)]; rfl
          rw [this, Bool.or_false, Nat.sub_zero, show j = l[i].length by omega]
        | succ m2 ih2 =>
          intro k2 j y8 hj hk2
          obtain ⟨k2, rfl⟩ : ∃ q, k2 = q + 1 := ⟨k2 - 1, by omega⟩
          have h2 : j < l[i].length := by omega
          conv => lhs; rw [tartanref03_Print.l1, if_pos (by omega), if_pos (by omega), rd_nat l i hlt, if_pos (by omega), show wrap64 ((j : Int) + 1) = ((j + 1 : Nat) : Int) from wrap_nat j 1 (by omega)]
          have e2 : k2 + 1 - (m2 + 1) = k2 - m2 := by omega
          rw [e2, big_step l[i] j h2]
          cases y8 with
          | true => rw [if_pos rfl, ih2 k2 (j + 1) true (by omega) (by omega)]; simp
          | false =>
            rw [if_neg (by decide), if_pos (by omega), rdOf_nat _ j h2, ih2 k2 (j + 1) _ (by omega) (by omega)]
            have : decide (((l[i][j].size : Nat) : Int) > 4096) = bigger 4096 l[i][j] := by
              rfl
            rw [this, Bool.false_or]
      have tail : ∀ (k2 : Nat) (y8 : Bool) (acc2 : Bs), 8100 + m * 70 < k2 → (y8 = false → acc2 = x9 ++ writeB c l[i] crlf) →
          tartanref03_Print.l1 (k2 + 1) l (c.toNat : Int) crlf y8 (ofBs x9) (i : Int) (l[i].length : Int) = some (fin (printLoop c crlf (l.drop (i + 1)) (if y8 = true then 7 else 0) acc2)) := by
        intro k2 y8 acc2 hk2 hacc2
        rw [tartanref03_Print.l1, if_pos (by omega), if_pos (by omega), rd_nat l i hlt, if_neg (by omega), write_big c l[i] crlf hr60 hsm k2 (by omega), Option.bind_some, if_pos (by rw [size_ofBs, size_ofBs]; omega), ← ofBs_append, show wrap64 ((i : Int) + 1) = ((i + 1 : Nat) : Int) from wrap_nat i 1 (by omega)]
        exact ih k2 (i + 1) y8 (x9 ++ writeB c l[i] crlf) acc2 (by omega) hk2 (by rw [List.length_append]; omega) hacc2
      have go : ∀ y8 : Bool, (y8 = false → acc = x9) → tartanref03_Print.j1 k l (c.toNat : Int) crlf y8 (ofBs x9) (i : Int) = some (fin (if tooBig l[i] = true then printLoop c crlf (l.drop (i + 1)) 7 acc else printLoop c crlf (l.drop (i + 1)) (if y8 = true then 7 else 0) (acc ++ writeB c l[i] crlf))) := by
        intro y8 hy8
        obtain ⟨k, rfl⟩ : ∃ q, k = q + 1 := ⟨k - 1, by omega⟩
        have hin : tartanref03_Print.l1 k l (c.toNat : Int) crlf y8 (ofBs x9) (i : Int) 0 = _ := inner l[i].length k 0 y8 (by omega) (by omega)
        rw [tartanref03_Print.j1, hin, ← htb]
        obtain ⟨k2, hk2⟩ : ∃ k2, k - l[i].length = k2 + 1 := ⟨k - l[i].length - 1, by omega⟩
        rw [hk2]
        cases htg : tooBig l[i] with
        | true =>
          rw [if_pos rfl, Bool.or_true, tail k2 true acc (by omega) (fun h => by cases h)]
          rfl
        | false =>
          rw [if_neg (by decide), Bool.or_false, tail k2 y8 (acc ++ writeB c l[i] crlf) (by omega) (fun h => by rw [hy8 h])]
      cases x8 with
      | true => rw [if_pos rfl]; exact go true hacc
      | false => rw [if_neg (by decide)]; exact go false hacc
theorem ref_print_f (l : List (List ByteArray)) (d : Int) (crlf : Bool) (hd : (Lit.int .u8 d).wf = true) (hf : FewP l) (k : Nat) (hk : 13000 < k) : tartanref03_Print.f k l d crlf = some (printF l d crlf) := by
  obtain ⟨c, rfl⟩ := delim_byte d hd
  unfold tartanref03_Print.f
  rw [ref01_Good_f, Option.bind_some]
  have hl := hf.1
  cases hg : goodI (c.toNat : Int) with
  | false => rw [if_neg (by decide)]; unfold printF; rw [hg, if_neg (by decide)]
  | true =>
    rw [if_pos rfl, show decide (((l.length : Nat) : Int) > 2048) = false from decide_eq_false (by omega)]
    have this : tartanref03_Print.l0 k l (c.toNat : Int) crlf false (ofBs []) 0 = _ := refprint l c crlf hf l.length k 0 false [] [] (by omega) (by omega) (by simp) (fun _ => rfl)
    rw [show (⟨#[]⟩ : ByteArray) = ofBs [] from rfl, this, List.drop_zero]
    have ec : UInt8.ofNat ((c.toNat : Int)).toNat = c := by simp
    obtain ⟨⟨e, acc⟩, hp⟩ : ∃ p, printLoop c crlf l 0 [] = p := ⟨_, rfl⟩
    rw [print_post l (c.toNat : Int) crlf e acc hg (by rw [ec, if_neg (by omega)]; exact hp)]
    rw [show (if false = true then (7 : Int) else 0) = 0 from rfl, hp]
    rfl
end Go.Proofs.Ytggodagdfldndaa.Q.L.Z

/-! The text of records, and whether two are alike, are just what the document says: for every input the law answers true. Conditions: none. -/
namespace Go.Proofs.Ytggodagdfldndaa.Pure
open Go.RowKit Go.Proofs.Ytggodagdfldndaa.Q Go.Proofs.Ytggodagdfldndaa.Q.L Go.Proofs.Ytggodagdfldndaa.Q.L.Z Go.Proofs.YtggodagdfldndaaW.PrintWords Go.Proofs.YtggodagdfldndaaW.PrintLast

theorem CsvPrints (a b : List (List ByteArray)) (d : Int) (x : Bool) (ha : Sized a) (hb : Sized b) (hd : (Lit.int .u8 d).wf = true) : ∃ k, tartanlaw03_CsvPrints.f k a b d x = some true := by
  refine ⟨14001, ?_⟩
  unfold tartanlaw03_CsvPrints.f
  obtain ⟨p, hp, hfa⟩ := few_f a ha 14001 (by omega)
  obtain ⟨q, hq, hfb⟩ := few_f b hb 14001 (by omega)
  have hno : tartanlaw03_CsvPrints.j0 14001 a b d x true false = some true := by
    rw [tartanlaw03_CsvPrints.j0, if_neg (by decide)]
  rw [works03, Option.bind_some, if_pos rfl, hp, Option.bind_some]
  cases p with
  | false => rw [if_neg (by decide)]; exact hno
  | true =>
    have hfa := hfa rfl
    rw [if_pos rfl, hq, Option.bind_some]
    cases q with
    | false => exact hno
    | true =>
      have la := hfa.1
      rw [tartanlaw03_CsvPrints.j0, if_pos rfl, print_f a d x hd (by omega), Option.bind_some, ref_print_f a d x hd hfa 14000 (by omega), Option.bind_some, same_f a b (by omega) 60 hfa.2.1 (by omega) 14000 (by omega), Option.bind_some, if_pos rfl, if_pos rfl, if_pos rfl]
      unfold csv_Same.f
      rw [Option.bind_some]
      simp

end Go.Proofs.Ytggodagdfldndaa.Pure

/-! A list of strings among a law's arguments: opened as the printed walks want it, and read again afterwards. -/
namespace Go.Proofs.Ytggodagdfldndaa
open Go.ChangeShapes Go.WideShapes Go.ChangeAt Go.RowKit Go.Proofs.YtggodagdfldndaaW.PrintWords
theorem laidOut : laidOutB Try.prog = true := by kernel_rfl
theorem underlying38 : Try.prog.underlying 38 = some (.slice 9) := by kernel_rfl
theorem under9 : Try.prog.underlying 9 = some .string := by kernel_rfl
theorem cells9 : Try.prog.cellsOf 9 = 1 := by kernel_rfl
theorem open_strl {H : Type} {enc : TypeId × Value → H} {W : World} {base : Nat} {v0 : Value} {d0 : DataW H} {p0 : List MemPlace} (hv : Value.okWide Try.prog W .any base 38 v0)
    (h : DataW.Trod enc Try.prog W 0 (fun _ => true) true 38 v0 d0 p0) :
    ∃ (A : Option Addr) (l : List ByteArray) (cap : Nat), v0 = .slice A l.length cap ∧ l.length ≤ cap ∧ Kd.C Kd.string W A l.length l := by
  obtain ⟨a0, len, cap, rfl⟩ := okWide_slice underlying38 hv
  obtain ⟨fuel, hf⟩ := h
  rcases open_strings underlying38 under9 cells9 hf with ⟨hcs, hx⟩ | ⟨a, len', cap', ss, hcs, _, hl, hm, hz, hx, hcell, hsz⟩
  · simp [Value.cells] at hcs
    obtain ⟨rfl, rfl, rfl⟩ := hcs
    exact ⟨none, [], 0, rfl, Nat.le_refl _, Kd.C_of_reads (d := ByteArray.empty) ⟨rfl, Nat.zero_le _, fun h => by cases h⟩⟩
  · simp [Value.cells] at hcs
    obtain ⟨rfl, rfl, rfl⟩ := hcs
    have hz' : cap = ss.length ∨ len = ss.length := by
      split at hz
      · exact Or.inl hz.symm
      · exact Or.inr hz.symm
    have e : (ss.take len).length = len := by rw [List.length_take]; omega
    refine ⟨some a, ss.take len, cap, by rw [e], by rw [e]; exact hl, ?_⟩
    rw [e]
    refine Kd.C_of_reads (d := ByteArray.empty) ⟨e, ?_, fun _ => ⟨a, rfl, fun j hj => ?_⟩⟩
    · have : maxLen ≤ 9223372036854775807 := by decide
      have h9 := Nat.le_trans hm this
      clear this hm
      exact Nat.le_trans hl h9
    · rw [hcell j (by omega)]
      have h3 : (ss.take len).getD j ByteArray.empty = ss.getD j ByteArray.empty := by
        rw [List.getD_eq_getElem?_getD, List.getD_eq_getElem?_getD, List.getElem?_take_of_lt hj]
      rw [h3]
/-- It is read again as before, where nothing of it was written. -/
theorem again_strl {H : Type} {enc : TypeId × Value → H} {W W' : World} {v0 : Value} {d0 : DataW H} {p0 : List MemPlace} (h : DataW.Trod enc Try.prog W 0 (fun _ => true) true 38 v0 d0 p0)
    (hb : Below W.heap.size W W') (hlt : ∀ x ∈ p0, x.block < W.heap.size) : DataW.Trod enc Try.prog W' 0 (fun b => decide (b < W.heap.size)) true 38 v0 d0 p0 :=
  Below.trod laidOut (by kernel_rfl) (of_decide_eq_true (by kernel_rfl)) h hb hlt
end Go.Proofs.Ytggodagdfldndaa

/-! A list of lists of strings among a law's arguments: opened as the printed walks want it, and read again afterwards. -/
namespace Go.Proofs.Ytggodagdfldndaa
open Go.ChangeShapes Go.WideShapes Go.ChangeAt Go.RowKit Go.Proofs.YtggodagdfldndaaW.PrintWords
theorem underlying41 : Try.prog.underlying 41 = some (.slice 38) := by kernel_rfl
theorem cells38 : Try.prog.cellsOf 38 = 1 := by kernel_rfl
theorem weights_strs {H : Type} (P : Program) (e : TypeId) : ∀ (ss : List ByteArray), ∀ y ∈ ss, y.size ∈ DataW.weightsAll P e (strs (H := H) ss)
  | [], _, h => by cases h
  | s :: ss, y, h => by
    show y.size ∈ _ ++ _
    rcases List.mem_cons.1 h with rfl | h
    · exact List.mem_append_left _ (by simp [DataW.weights])
    · exact List.mem_append_right _ (weights_strs P e ss y h)
theorem weights_all {H : Type} (P : Program) (e : TypeId) : ∀ (ds : List (DataW H)) (d : DataW H), d ∈ ds → ∀ n ∈ d.weights P e, n ∈ DataW.weightsAll P e ds
  | [], _, h, _, _ => by cases h
  | d0 :: ds, d, h, n, hn => by
    show n ∈ _ ++ _
    rcases List.mem_cons.1 h with rfl | h
    · exact List.mem_append_left _ hn
    · exact List.mem_append_right _ (weights_all P e ds d h n hn)
theorem open_strs1 {H : Type} {enc : TypeId × Value → H} {W : World} {fuel : Nat} {v : Value} {x : DataW H × List MemPlace} (h : DataW.trod enc Try.prog W 0 (fun _ => true) true fuel 38 [v] = some x) :
    ∃ (A : Option Addr) (l : List ByteArray) (c : Nat), v = .slice A l.length c ∧ l.length ≤ c ∧ Kd.C Kd.string W A l.length l ∧ ∀ y ∈ l, y.size ∈ x.1.weights Try.prog 38 := by
  rcases open_strings underlying38 under9 cells9 h with ⟨hcs, hx⟩ | ⟨a, len, cap, ss, hcs, _, hl, hm, hz, hx, hcell, hsz⟩
  · injection hcs with hcs _
    subst hcs
    exact ⟨none, [], 0, rfl, Nat.le_refl _, Kd.C_of_reads (d := ByteArray.empty) ⟨rfl, Nat.zero_le _, fun h => by cases h⟩, by simp⟩
  · injection hcs with hcs _
    subst hcs
    have hz' : cap = ss.length ∨ len = ss.length := by
      split at hz
      · exact Or.inl hz.symm
      · exact Or.inr hz.symm
    have e : (ss.take len).length = len := by rw [List.length_take]; omega
    refine ⟨some a, ss.take len, cap, by rw [e], by rw [e]; exact hl, ?_, ?_⟩
    · rw [e]
      refine Kd.C_of_reads (d := ByteArray.empty) ⟨e, ?_, fun _ => ⟨a, rfl, fun j hj => ?_⟩⟩
      · have : maxLen ≤ 9223372036854775807 := by decide
        have h9 := Nat.le_trans hm this
        clear this hm
        exact Nat.le_trans hl h9
      · rw [hcell j (by omega)]
        have h3 : (ss.take len).getD j ByteArray.empty = ss.getD j ByteArray.empty := by
          rw [List.getD_eq_getElem?_getD, List.getD_eq_getElem?_getD, List.getElem?_take_of_lt hj]
        rw [h3]
    · intro y hy
      rw [hx]
      unfold DataW.weights
      rw [underlying38]
      exact List.mem_cons_of_mem _ (List.mem_append_left _ (weights_strs _ _ _ y hy))
theorem open_strll {H : Type} {enc : TypeId × Value → H} {W : World} {base : Nat} {v0 : Value} {d0 : DataW H} {p0 : List MemPlace} (hv : Value.okWide Try.prog W .any base 41 v0)
    (h : DataW.Trod enc Try.prog W 0 (fun _ => true) true 41 v0 d0 p0) (hw : ∀ n ∈ d0.weights Try.prog 41, n ≤ reachBytes) :
    ∃ (A : Option Addr) (l : List (List ByteArray)) (cap : Nat), v0 = .slice A l.length cap ∧ l.length ≤ cap ∧ Kd.C (Kd.slice 9 Kd.string) W A l.length l ∧ ∀ r ∈ l, ∀ x ∈ r, x.size ≤ 140737488351232 := by
  obtain ⟨a0, len, cap, rfl⟩ := okWide_slice underlying41 hv
  obtain ⟨fuel, hf⟩ := h
  rcases Go.Deep.open_slice1 underlying41 cells38 hf with ⟨hcs, hx⟩ | ⟨a, len', cap', m, n, V, D, Pl, hcs, _, hl, hm, hmm, hx, hel⟩
  · simp [Value.cells] at hcs
    obtain ⟨rfl, rfl, rfl⟩ := hcs
    exact ⟨none, [], 0, rfl, Nat.le_refl _, Kd.C_nil _ _, by simp⟩
  · simp [Value.cells] at hcs
    obtain ⟨rfl, rfl, rfl⟩ := hcs
    have hlm : len ≤ m := by
      split at hmm <;> omega
    have hex : ∀ i, ∃ p : Option Addr × List ByteArray × Nat, i < m → V i = .slice p.1 p.2.1.length p.2.2 ∧ p.2.1.length ≤ p.2.2 ∧ Kd.C Kd.string W p.1 p.2.1.length p.2.1 ∧ ∀ y ∈ p.2.1, y.size ∈ (D i).weights Try.prog 38 := by
      intro i
      by_cases hi : i < m
      · obtain ⟨A, l, c, h1, h2, h3, h4⟩ := open_strs1 (hel i hi).2
        exact ⟨(A, l, c), fun _ => ⟨h1, h2, h3, h4⟩⟩
      · exact ⟨(none, [], 0), fun h => absurd h hi⟩
    obtain ⟨F, hF⟩ := Classical.skolem.1 hex
    have e : ((List.range len).map fun i => (F i).2.1).length = len := by simp
    refine ⟨some a, (List.range len).map fun i => (F i).2.1, cap, by rw [e], by rw [e]; exact hl, ?_, ?_⟩
    · rw [e]
      refine ⟨e, ?_, fun _ => ⟨a, rfl, fun j p hj => ?_⟩⟩
      · have : maxLen ≤ 9223372036854775807 := by decide
        have h9 := Nat.le_trans hm this
        clear this hm
        exact Nat.le_trans hl h9
      · rw [List.getElem?_map] at hj
        obtain ⟨j', hj', rfl⟩ := Option.map_eq_some_iff.1 hj
        obtain ⟨hjl, he⟩ := List.getElem?_eq_some_iff.1 hj'
        rw [List.getElem_range] at he
        subst he
        rw [List.length_range] at hjl
        obtain ⟨g1, g2, g3, _⟩ := hF j (by omega)
        refine ⟨[V j], rfl, ⟨(F j).1, (F j).2.2, by rw [g1], g2, g3⟩, fun i u hu => ?_⟩
        cases i with
        | zero =>
          simp only [List.getElem?_cons_zero, Option.some.injEq] at hu
          subst hu
          show W.cell? (a.add (j * 1 + 0)) = _
          rw [Nat.mul_one, Nat.add_zero]
          exact (hel j (by omega)).1
        | succ i => simp at hu
    · intro r hr x hxr
      obtain ⟨j, hj, rfl⟩ := List.mem_map.1 hr
      rw [List.mem_range] at hj
      have h5 := (hF j (by omega)).2.2.2 x hxr
      refine hw _ ?_
      rw [(Prod.mk.inj hx).1]
      unfold DataW.weights
      rw [underlying41]
      exact List.mem_cons_of_mem _ (List.mem_append_left _ (weights_all _ _ _ _ (List.mem_map.2 ⟨j, List.mem_range.2 hj, rfl⟩) _ h5))
/-- It is read again as before, where nothing of it was written. -/
theorem again_strll {H : Type} {enc : TypeId × Value → H} {W W' : World} {v0 : Value} {d0 : DataW H} {p0 : List MemPlace} (h : DataW.Trod enc Try.prog W 0 (fun _ => true) true 41 v0 d0 p0)
    (hb : Below W.heap.size W W') (hlt : ∀ x ∈ p0, x.block < W.heap.size) : DataW.Trod enc Try.prog W' 0 (fun b => decide (b < W.heap.size)) true 41 v0 d0 p0 :=
  Below.trod laidOut (by kernel_rfl) (of_decide_eq_true (by kernel_rfl)) h hb hlt
/-- What it weighs is bounded. -/
theorem weight_le {H : Type} {P : Program} {ts : List TypeId} {ds : List (DataW H)} (h : (DataW.weightsEach P ts ds).all (· ≤ reachBytes) = true) {j : Nat} {t : TypeId} {d : DataW H} (ht : ts[j]? = some t) (hd : ds[j]? = some d) : ∀ n ∈ d.weights P t, n ≤ reachBytes := fun n hn => by
  have := List.all_eq_true.1 h _ (DataW.weights_mem_each ht hd n hn)
  simpa using this
end Go.Proofs.Ytggodagdfldndaa

namespace Go.Proofs.Ytggodagdfldndaa.csvPrints
open Go.ChangeShapes Go.WideShapes Go.ChangeAt Go.RowKit
open Go.ChangeMaps (open_string shut_string)
set_option linter.unusedVariables false
theorem own : ownKnob Try.prog.godebug = none := by kernel_rfl
set_option maxRecDepth 100000 in
theorem lifted (os : Os) (started : os.Started) (H : Type) (enc : TypeId × Value → H) :
    ReturnsInHanded {} Try.checked os 13 .any (Rows.csvPrintsSpec.pre6 enc Try.prog Try.f13 Rows.csvPrintsRow.domain false) (Rows.csvPrintsSpec.post enc Try.prog Try.f13 false true false false) := by
  refine returnsInHanded_of_change_sized (C := Try.checked) own started (by kernel_rfl) Try.func13
    (ChangeSpec.witness6 (enc := enc) (C := Try.checked) false ⟨#[], #[.slice none 0 0, .slice none 0 0, .int .u8 0, .bool false], []⟩ 8 (by kernel_rfl) (by kernel_rfl) (by kernel_rfl) (by kernel_rfl)) ?_
  intro W base args ds gs before hval0 hW hcnd hsz0 _
  have hsz : (DataW.weightsEach Try.prog (Try.f13.params.toList ++ Rows.csvPrintsSpec.plain.varTypes Try.prog) (ds ++ gs)).all (· ≤ reachBytes) = true := hsz0
  have hval : ∀ (j : Nat) t v, Try.f13.params[j]? = some t → args[j]? = some v → Value.okWide Try.prog W .any base t v := hval0
  have hW' := hW
  obtain ⟨p, q, hA0, hV, rfl, hfz, hnd⟩ := hW
  have hA : DataW.TrodAll enc Try.prog W 0 (fun _ => true) true Try.f13.params.toList args.toList ds p := hA0
  rw [Try.params13] at hA hval hsz
  obtain ⟨v0, vs0, d0, ds0, p0, q0, hargs, rfl, rfl, h0, r0⟩ := trodAll_cons hA
  obtain ⟨v1, vs1, d1, ds1, p1, q1, rfl, rfl, rfl, h1, r1⟩ := trodAll_cons r0
  obtain ⟨v2, vs2, d2, ds2, p2, q2, rfl, rfl, rfl, h2, r2⟩ := trodAll_cons r1
  obtain ⟨v3, vs3, d3, ds3, p3, q3, rfl, rfl, rfl, h3, r3⟩ := trodAll_cons r2
  obtain ⟨rfl, rfl, rfl⟩ := trodAll_nil r3
  obtain rfl : args = #[v0, v1, v2, v3] := by cases args; simp_all
  obtain ⟨rfl, rfl⟩ := trodVars_none hV
  have g0 := h0
  obtain ⟨A0, l0, c0, rfl, hc0, hr0, z0⟩ := open_strll (hval 0 41 v0 rfl rfl) h0 (weight_le hsz (j := 0) rfl rfl)
  have hlt0 : ∀ x ∈ p0, x.block < W.heap.size := fun x hx => hW'.lt x (by simp [hx])
  have g1 := h1
  obtain ⟨A1, l1, c1, rfl, hc1, hr1, z1⟩ := open_strll (hval 1 41 v1 rfl rfl) h1 (weight_le hsz (j := 1) rfl rfl)
  have hlt1 : ∀ x ∈ p1, x.block < W.heap.size := fun x hx => hW'.lt x (by simp [hx])
  obtain ⟨a2, rfl, rfl, rfl, w2⟩ := open_int Try.underlying5 (hval 2 5 v2 rfl rfl) h2
  obtain ⟨a3, rfl, rfl, rfl⟩ := open_bool Try.underlying4 (hval 3 4 v3 rfl rfl) h3
  clear hA0 hval0 hsz0 hsz
  obtain ⟨k, hk⟩ := Pure.CsvPrints l0 l1 a2 a3 z0 z1 w2
  refine (Q.L.Z.tartanlaw03_CsvPrints.calls k A0 c0 l0 A1 c1 l1 a2 a3 true W hr0 hc0 hr1 hc1 hk).mono fun e W' ⟨he, bel⟩ => ?_
  subst he
  exact ⟨_, rfl, _, _, _, [], _, [], hW', trodAll_mk1 (shut_bool Try.underlying4 _), (trodAll_cons_mk (again_strll g0 bel hlt0) (trodAll_cons_mk (again_strll g1 bel hlt1) (trodAll_cons_mk (shut_int Try.underlying5 w2) (trodAll_cons_mk (shut_bool Try.underlying4 _) trodAll_mk0)))), rfl, bel.frame _, fun h => by cases h⟩
theorem over : Rows.csvPrintsRow.holds Try.pinned (OpenSpec.ofChange Rows.csvPrintsSpec) :=
  OpenClaim.holds_of_wide 13 Try.f13 rfl rfl rfl rfl rfl rfl rfl ⟨rfl, rfl, rfl, rfl, rfl⟩ rfl rfl rfl rfl rfl (by kernel_rfl) Try.func13 (by kernel_rfl)
    (of_decide_eq_true (by kernel_rfl)) (by unfold Func.isWrapper; first | (rw [if_pos (by decide +kernel)]; kernel_rfl) | (rw [if_neg (by decide +kernel)]; exact ⟨rfl, rfl⟩))
    (fun os started H enc _ => lifted os started H enc)
theorem proved : Rows.CsvPrintsSaid := over
#print axioms proved
end Go.Proofs.Ytggodagdfldndaa.csvPrints
namespace Go.Proofs.Ytggodagdfldndaa
/-- The row, under a short name, for the claim. -/
theorem csvPrints_holds : Rows.CsvPrintsSaid := csvPrints.proved
end Go.Proofs.Ytggodagdfldndaa
