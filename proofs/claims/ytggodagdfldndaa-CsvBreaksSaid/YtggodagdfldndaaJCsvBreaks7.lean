/- A list of strings among a law's arguments: opened as the printed walks want it, and read again afterwards. -/
import Derived.Test.YtggodagdfldndaaJCsvBreaks5
import Derived.Test.YtggodagdfldndaaJCsvBreaks6
import Derived.Test.YtggodagdfldndaaJCsvBreaks4
import Derived.Test.YtggodagdfldndaaJCsvBreaks2
import Derived.Test.YtggodagdfldndaaRows
import Derived.ProofKit
import Derived.SliceStrings
set_option linter.unusedVariables false
set_option linter.unusedSimpArgs false
/-! Walks of Go functions of this seat against plain Lean functions, written by a program of this session (the kit's print, with hand-proved contracts for what it does not take). Lean checks them. -/
namespace Go.Proofs.Ytggodagdfldndaa.Q.L.Z
open Go.RowKit Go.Proofs.YtggodagdfldndaaW.PrintWords Go.Proofs.YtggodagdfldndaaW.PrintLast Go.Proofs.YtggodagdfldndaaW.PrintMore
attribute [local go_sem] max2_int min2_int max_two min_two max_three min_three max_four min_four   -- for this text's walks alone
set_option linter.unusedVariables false
set_option linter.unusedSimpArgs false

/-! ### tartanlaw03_CsvBreaks: function 15 -/
mutual
def tartanlaw03_CsvBreaks.j0 : Nat → List (List ByteArray) → Int → Bool → Bool → Bool → Option (Bool)
  | 0, _, _, _, _, _ => none
  | k + 1, x0, x1, x2, x7, x34 => if x34 = true then (some x7) else ((csv_Print.f x0 x1 x2).bind fun bt183 => ((csv_Print.f x0 x1 (!x2)).bind fun bt185 => (if bt183.2 = 0 then (tartanlaw03_CsvBreaks.j1 k x0 x1 x2 x7 bt183.1 bt183.2 bt185.1 bt185.2 (bt185.2 != 0)) else (tartanlaw03_CsvBreaks.j1 k x0 x1 x2 x7 bt183.1 bt183.2 bt185.1 bt185.2 true))))
def tartanlaw03_CsvBreaks.j1 : Nat → List (List ByteArray) → Int → Bool → Bool → ByteArray → Int → ByteArray → Int → Bool → Option (Bool)
  | 0, _, _, _, _, _, _, _, _, _ => none
  | k + 1, x0, x1, x2, x7, x9, x10, x11, x12, x56 => if x56 = true then (if x7 = true then (some (x10 == x12)) else (some false)) else (if 0 ≤ (wrap64 ((x0.length : Int) - 1)) then (if (wrap64 ((x0.length : Int) - 1)) < (x0.length : Int) then ((lex_Break.f k x9 (wrap64 ((x9.size : Int) - 1))).bind fun t188 => (if 0 ≤ (wrap64 ((x9.size : Int) - t188)) then (if (wrap64 ((x9.size : Int) - t188)) ≤ (x9.size : Int) then (if x2 = true then (if 0 ≤ (wrap64 ((x9.size : Int) - 2)) then (if (wrap64 ((x9.size : Int) - 2)) ≤ (x9.size : Int) then (tartanlaw03_CsvBreaks.j2 k x0 x1 x7 x11 (rd_L1 x0 (wrap64 ((x0.length : Int) - 1))) (x9.extract 0 ((wrap64 ((x9.size : Int) - 2)) : Int).toNat)) else (none)) else (none)) else (tartanlaw03_CsvBreaks.j2 k x0 x1 x7 x11 (rd_L1 x0 (wrap64 ((x0.length : Int) - 1))) (x9.extract 0 ((wrap64 ((x9.size : Int) - t188)) : Int).toNat))) else (none)) else (none))) else (none)) else (none))
def tartanlaw03_CsvBreaks.j2 : Nat → List (List ByteArray) → Int → Bool → ByteArray → List ByteArray → ByteArray → Option (Bool)
  | 0, _, _, _, _, _, _ => none
  | k + 1, x0, x1, x7, x11, x13, x14 => (csv_Parse.f x14 x1).bind fun bt189 => (if bt189.2.2 = 0 then (tartanlaw03_CsvBreaks.j3 k x0 x1 x7 x11 x13 bt189.1 (bt189.2.1 != 0)) else (tartanlaw03_CsvBreaks.j3 k x0 x1 x7 x11 x13 bt189.1 true))
def tartanlaw03_CsvBreaks.j3 : Nat → List (List ByteArray) → Int → Bool → ByteArray → List ByteArray → List (List ByteArray) → Bool → Option (Bool)
  | 0, _, _, _, _, _, _, _ => none
  | k + 1, x0, x1, x7, x11, x13, x15, x97 => if x97 = true then (some false) else (if (x13.length : Int) = 1 then (if 0 < (x13.length : Int) then (tartanlaw03_CsvBreaks.j4 k x0 x1 x7 x11 x15 ((rdOf ByteArray.empty x13 0).toList == ([] : List UInt8))) else (none)) else (tartanlaw03_CsvBreaks.j4 k x0 x1 x7 x11 x15 false))
def tartanlaw03_CsvBreaks.j4 : Nat → List (List ByteArray) → Int → Bool → ByteArray → List (List ByteArray) → Bool → Option (Bool)
  | 0, _, _, _, _, _, _ => none
  | k + 1, x0, x1, x7, x11, x15, x106 => if x106 = true then (if 0 ≤ (wrap64 ((x0.length : Int) - 1)) then (if (wrap64 ((x0.length : Int) - 1)) ≤ (x0.length : Int) then ((tartanref03_Same.f k x15 (x0.take ((wrap64 ((x0.length : Int) - 1)) : Int).toNat)).bind fun t199 => (if x7 = true then (some t199) else (some false))) else (none)) else (none)) else ((csv_Parse.f x11 x1).bind fun bt200 => ((tartanref03_Same.f k x15 x0).bind fun t205 => (if t205 = true then ((tartanref03_Same.f k bt200.1 x0).bind fun t206 => (if x7 = true then (if bt200.2.2 = 0 then (some t206) else (some false)) else (some false))) else (if x7 = true then (if bt200.2.2 = 0 then (some false) else (some false)) else (some false)))))
end
def tartanlaw03_CsvBreaks.f (k : Nat) (l0 : List (List ByteArray)) (a1 : Int) (a2 : Bool) : Option (Bool) := (tartanlaw03_works.f).bind fun t181 => (if t181 = true then ((tartanref03_Few.f k l0).bind fun t182 => (if t182 = true then (tartanlaw03_CsvBreaks.j0 k l0 a1 a2 t181 ((l0.length : Int) == 0)) else (tartanlaw03_CsvBreaks.j0 k l0 a1 a2 t181 true))) else (some false))
theorem tartanlaw03_CsvBreaks.mono_l : ∀ k, (∀ y0 y1 y2 y3 y4, LeO (tartanlaw03_CsvBreaks.j0 k y0 y1 y2 y3 y4) (tartanlaw03_CsvBreaks.j0 (k + 1) y0 y1 y2 y3 y4)) ∧ (∀ y0 y1 y2 y3 y4 y5 y6 y7 y8, LeO (tartanlaw03_CsvBreaks.j1 k y0 y1 y2 y3 y4 y5 y6 y7 y8) (tartanlaw03_CsvBreaks.j1 (k + 1) y0 y1 y2 y3 y4 y5 y6 y7 y8)) ∧ (∀ y0 y1 y2 y3 y4 y5, LeO (tartanlaw03_CsvBreaks.j2 k y0 y1 y2 y3 y4 y5) (tartanlaw03_CsvBreaks.j2 (k + 1) y0 y1 y2 y3 y4 y5)) ∧ (∀ y0 y1 y2 y3 y4 y5 y6, LeO (tartanlaw03_CsvBreaks.j3 k y0 y1 y2 y3 y4 y5 y6) (tartanlaw03_CsvBreaks.j3 (k + 1) y0 y1 y2 y3 y4 y5 y6)) ∧ (∀ y0 y1 y2 y3 y4 y5, LeO (tartanlaw03_CsvBreaks.j4 k y0 y1 y2 y3 y4 y5) (tartanlaw03_CsvBreaks.j4 (k + 1) y0 y1 y2 y3 y4 y5))
  | 0 => ⟨fun _ _ _ _ _ r h => by simp [tartanlaw03_CsvBreaks.j0] at h, fun _ _ _ _ _ _ _ _ _ r h => by simp [tartanlaw03_CsvBreaks.j1] at h, fun _ _ _ _ _ _ r h => by simp [tartanlaw03_CsvBreaks.j2] at h, fun _ _ _ _ _ _ _ r h => by simp [tartanlaw03_CsvBreaks.j3] at h, fun _ _ _ _ _ _ r h => by simp [tartanlaw03_CsvBreaks.j4] at h⟩
  | k + 1 => by
    obtain ⟨ih0, ih1, ih2, ih3, ih4⟩ := tartanlaw03_CsvBreaks.mono_l k
    refine ⟨?_, ?_, ?_, ?_, ?_⟩
    · intro y0 y1 y2 y3 y4
      unfold tartanlaw03_CsvBreaks.j0
      repeat' first
      | (with_reducible exact ih0 _ _ _ _ _)
      | (with_reducible exact ih1 _ _ _ _ _ _ _ _ _)
      | (with_reducible exact ih2 _ _ _ _ _ _)
      | (with_reducible exact ih3 _ _ _ _ _ _ _)
      | (with_reducible exact ih4 _ _ _ _ _ _)
      | (with_reducible exact lex_Break.mono _ _ _)
      | (with_reducible exact tartanref03_Few.mono _ _)
      | (with_reducible exact tartanref03_Same.mono _ _ _)
      | (with_reducible exact LeO.refl _)
      | (with_reducible exact LeO.none _)
      | (with_reducible refine LeO.ite ?_ ?_)
      | (with_reducible refine LeO.bind ?_ (fun _ => ?_))
      | exact ih0 _ _ _ _ _
      | exact ih1 _ _ _ _ _ _ _ _ _
      | exact ih2 _ _ _ _ _ _
      | exact ih3 _ _ _ _ _ _ _
      | exact ih4 _ _ _ _ _ _
      | exact lex_Break.mono _ _ _
      | exact tartanref03_Few.mono _ _
      | exact tartanref03_Same.mono _ _ _
      | exact LeO.none _
      | refine LeO.ite ?_ ?_
      | refine LeO.bind ?_ (fun _ => ?_)
    · intro y0 y1 y2 y3 y4 y5 y6 y7 y8
      unfold tartanlaw03_CsvBreaks.j1
      repeat' first
      | (with_reducible exact ih0 _ _ _ _ _)
      | (with_reducible exact ih1 _ _ _ _ _ _ _ _ _)
      | (with_reducible exact ih2 _ _ _ _ _ _)
      | (with_reducible exact ih3 _ _ _ _ _ _ _)
      | (with_reducible exact ih4 _ _ _ _ _ _)
      | (with_reducible exact lex_Break.mono _ _ _)
      | (with_reducible exact tartanref03_Few.mono _ _)
      | (with_reducible exact tartanref03_Same.mono _ _ _)
      | (with_reducible exact LeO.refl _)
      | (with_reducible exact LeO.none _)
      | (with_reducible refine LeO.ite ?_ ?_)
      | (with_reducible refine LeO.bind ?_ (fun _ => ?_))
      | exact ih0 _ _ _ _ _
      | exact ih1 _ _ _ _ _ _ _ _ _
      | exact ih2 _ _ _ _ _ _
      | exact ih3 _ _ _ _ _ _ _
      | exact ih4 _ _ _ _ _ _
      | exact lex_Break.mono _ _ _
      | exact tartanref03_Few.mono _ _
      | exact tartanref03_Same.mono _ _ _
      | exact LeO.none _
      | refine LeO.ite ?_ ?_
      | refine LeO.bind ?_ (fun _ => ?_)
    · intro y0 y1 y2 y3 y4 y5
      unfold tartanlaw03_CsvBreaks.j2
      repeat' first
      | (with_reducible exact ih0 _ _ _ _ _)
      | (with_reducible exact ih1 _ _ _ _ _ _ _ _ _)
      | (with_reducible exact ih2 _ _ _ _ _ _)
      | (with_reducible exact ih3 _ _ _ _ _ _ _)
      | (with_reducible exact ih4 _ _ _ _ _ _)
      | (with_reducible exact lex_Break.mono _ _ _)
      | (with_reducible exact tartanref03_Few.mono _ _)
      | (with_reducible exact tartanref03_Same.mono _ _ _)
      | (with_reducible exact LeO.refl _)
      | (with_reducible exact LeO.none _)
      | (with_reducible refine LeO.ite ?_ ?_)
      | (with_reducible refine LeO.bind ?_ (fun _ => ?_))
      | exact ih0 _ _ _ _ _
      | exact ih1 _ _ _ _ _ _ _ _ _
      | exact ih2 _ _ _ _ _ _
      | exact ih3 _ _ _ _ _ _ _
      | exact ih4 _ _ _ _ _ _
      | exact lex_Break.mono _ _ _
      | exact tartanref03_Few.mono _ _
      | exact tartanref03_Same.mono _ _ _
      | exact LeO.none _
      | refine LeO.ite ?_ ?_
      | refine LeO.bind ?_ (fun _ => ?_)
    · intro y0 y1 y2 y3 y4 y5 y6
      unfold tartanlaw03_CsvBreaks.j3
      repeat' first
      | (with_reducible exact ih0 _ _ _ _ _)
      | (with_reducible exact ih1 _ _ _ _ _ _ _ _ _)
      | (with_reducible exact ih2 _ _ _ _ _ _)
      | (with_reducible exact ih3 _ _ _ _ _ _ _)
      | (with_reducible exact ih4 _ _ _ _ _ _)
      | (with_reducible exact lex_Break.mono _ _ _)
      | (with_reducible exact tartanref03_Few.mono _ _)
      | (with_reducible exact tartanref03_Same.mono _ _ _)
      | (with_reducible exact LeO.refl _)
      | (with_reducible exact LeO.none _)
      | (with_reducible refine LeO.ite ?_ ?_)
      | (with_reducible refine LeO.bind ?_ (fun _ => ?_))
      | exact ih0 _ _ _ _ _
      | exact ih1 _ _ _ _ _ _ _ _ _
      | exact ih2 _ _ _ _ _ _
      | exact ih3 _ _ _ _ _ _ _
      | exact ih4 _ _ _ _ _ _
      | exact lex_Break.mono _ _ _
      | exact tartanref03_Few.mono _ _
      | exact tartanref03_Same.mono _ _ _
      | exact LeO.none _
      | refine LeO.ite ?_ ?_
      | refine LeO.bind ?_ (fun _ => ?_)
    · intro y0 y1 y2 y3 y4 y5
      unfold tartanlaw03_CsvBreaks.j4
      repeat' first
      | (with_reducible exact ih0 _ _ _ _ _)
      | (with_reducible exact ih1 _ _ _ _ _ _ _ _ _)
      | (with_reducible exact ih2 _ _ _ _ _ _)
      | (with_reducible exact ih3 _ _ _ _ _ _ _)
      | (with_reducible exact ih4 _ _ _ _ _ _)
      | (with_reducible exact lex_Break.mono _ _ _)
      | (with_reducible exact tartanref03_Few.mono _ _)
      | (with_reducible exact tartanref03_Same.mono _ _ _)
      | (with_reducible exact LeO.refl _)
      | (with_reducible exact LeO.none _)
      | (with_reducible refine LeO.ite ?_ ?_)
      | (with_reducible refine LeO.bind ?_ (fun _ => ?_))
      | exact ih0 _ _ _ _ _
      | exact ih1 _ _ _ _ _ _ _ _ _
      | exact ih2 _ _ _ _ _ _
      | exact ih3 _ _ _ _ _ _ _
      | exact ih4 _ _ _ _ _ _
      | exact lex_Break.mono _ _ _
      | exact tartanref03_Few.mono _ _
      | exact tartanref03_Same.mono _ _ _
      | exact LeO.none _
      | refine LeO.ite ?_ ?_
      | refine LeO.bind ?_ (fun _ => ?_)
theorem tartanlaw03_CsvBreaks.mono : ∀ a0 a1 a2 k, LeO (tartanlaw03_CsvBreaks.f k a0 a1 a2) (tartanlaw03_CsvBreaks.f (k + 1) a0 a1 a2) := by
  intro a0 a1 a2 k
  obtain ⟨ih0, ih1, ih2, ih3, ih4⟩ := tartanlaw03_CsvBreaks.mono_l k
  unfold tartanlaw03_CsvBreaks.f
  repeat' first
      | (with_reducible exact ih0 _ _ _ _ _)
      | (with_reducible exact ih1 _ _ _ _ _ _ _ _ _)
      | (with_reducible exact ih2 _ _ _ _ _ _)
      | (with_reducible exact ih3 _ _ _ _ _ _ _)
      | (with_reducible exact ih4 _ _ _ _ _ _)
      | (with_reducible exact lex_Break.mono _ _ _)
      | (with_reducible exact tartanref03_Few.mono _ _)
      | (with_reducible exact tartanref03_Same.mono _ _ _)
      | (with_reducible exact LeO.refl _)
      | (with_reducible exact LeO.none _)
      | (with_reducible refine LeO.ite ?_ ?_)
      | (with_reducible refine LeO.bind ?_ (fun _ => ?_))
      | exact ih0 _ _ _ _ _
      | exact ih1 _ _ _ _ _ _ _ _ _
      | exact ih2 _ _ _ _ _ _
      | exact ih3 _ _ _ _ _ _ _
      | exact ih4 _ _ _ _ _ _
      | exact lex_Break.mono _ _ _
      | exact tartanref03_Few.mono _ _
      | exact tartanref03_Same.mono _ _ _
      | exact LeO.none _
      | refine LeO.ite ?_ ?_
      | refine LeO.bind ?_ (fun _ => ?_)
set_option maxHeartbeats 8000000 in
set_option maxRecDepth 100000 in
theorem tartanlaw03_CsvBreaks.calls (k : Nat) (A0 : Option Addr) (c0 : Nat) (l0 : List (List ByteArray)) (a1 : Int) (a2 : Bool) (r : Bool) (w : World) (hr0 : Kd.C (Kd.slice 9 Kd.string) w A0 l0.length l0) (hc0 : l0.length ≤ c0) (h : tartanlaw03_CsvBreaks.f k l0 a1 a2 = some r) :
    Calls Try.prog 15 #[.slice A0 l0.length c0, .int .u8 a1, .bool a2] w fun e w' => e = .returned (.bool r) ∧ Below w.heap.size w w' := by
  have HR0 := Aside0.mk hr0
  have HC0 := Aside0.mk hc0
  clear hr0 hc0
  have HB := Aside0.mk (Below.refl w.heap.size w)
  have H : ((tartanlaw03_works.f).bind fun t181 => (if t181 = true then ((tartanref03_Few.f k l0).bind fun t182 => (if t182 = true then (tartanlaw03_CsvBreaks.j0 k l0 a1 a2 t181 ((l0.length : Int) == 0)) else (tartanlaw03_CsvBreaks.j0 k l0 a1 a2 t181 true))) else (some false))) = some r := h
  clear h
  replace H := Option.bind_eq_some_iff.mp H
  obtain ⟨t181, A40, H⟩ := H
  replace H : (if t181 = true then ((tartanref03_Few.f k l0).bind fun t182 => (if t182 = true then (tartanlaw03_CsvBreaks.j0 k l0 a1 a2 t181 ((l0.length : Int) == 0)) else (tartanlaw03_CsvBreaks.j0 k l0 a1 a2 t181 true))) else (some false)) = some r := H
  have A4 := Aside0.mk A40
  clear A40
  by_cases c5 : t181 = true
  · subst c5
    have H1 : ((tartanref03_Few.f k l0).bind fun t182 => (if t182 = true then (tartanlaw03_CsvBreaks.j0 k l0 a1 a2 true ((l0.length : Int) == 0)) else (tartanlaw03_CsvBreaks.j0 k l0 a1 a2 true true))) = some r := by rw [if_pos rfl] at H; exact H
    clear H
    have H := H1
    clear H1
    replace H := Option.bind_eq_some_iff.mp H
    obtain ⟨t182, A60, H⟩ := H
    replace H : (if t182 = true then (tartanlaw03_CsvBreaks.j0 k l0 a1 a2 true ((l0.length : Int) == 0)) else (tartanlaw03_CsvBreaks.j0 k l0 a1 a2 true true)) = some r := H
    have A6 := Aside0.mk A60
    clear A60
    have HC7 := Aside0.mk H
    clear H
    go_enter Try.func15, Try.ntmps15
    go_upto_region 5 with (first | ((with_reducible refine gate_callee (f := 39) rfl ?_); refine goesL_ (some 23) rfl rfl Try.func39 (by kernel_rfl) rfl #[] rfl (by (try simp only [List.map_toArray, List.map_cons, List.map_nil]); first | done | rfl | (simp only [List.length_drop, List.length_take]; rfl)) ?_; (with_reducible refine (tartanlaw03_works.calls  true _ A4.out).mono ?_); rintro e w8 ⟨rfl, hb⟩; refine ⟨_, rfl, ?_⟩; have n0_ := Aside0.mk (below_step (by repeat (first | (with_reducible first | exact HB.out | apply below_alloc | apply pw_below_drewN | apply below_drew1) | exact HB.out)) hb); clear HB; have HB := n0_; clear n0_; (try clear hb); (try clear hb2); (try clear hk); (try clear hi)) | ((with_reducible refine gate_callee (f := 43) rfl ?_); refine goesL_ (some 27) rfl rfl Try.func43 (by kernel_rfl) rfl #[.slice A0 l0.length c0] rfl (by (try simp only [List.map_toArray, List.map_cons, List.map_nil]); first | done | rfl | (simp only [List.length_drop, List.length_take]; rfl)) ?_; (with_reducible refine (tartanref03_Few.calls k _ _ l0 t182 _ ?side1 ?side2 A6.out).mono ?_); (case side1 => repeat (first | exact (Kd.C_below HR0.out HB.out) | (with_reducible refine Kd.C_alloc ?_ _) | (with_reducible refine Kd.C_drewN ?_ _) | (with_reducible refine Kd.C_drew ?_))); (case side2 => exact HC0.out); rintro e w' ⟨rfl, ⟨nd, rfl⟩⟩; refine ⟨_, rfl, ?_⟩))
    (try simp only [Act.put, List.setIfInBounds_toArray, List.set_cons_zero, List.set_cons_succ])
    go_cut [34] (fun v34 wc => ∃ (kq : Nat) (x34_6 : Bool), v34 = .bool x34_6 ∧ Aside0 (tartanlaw03_CsvBreaks.j0 kq l0 a1 a2 true x34_6 = some r) ∧ Aside0 (kq ≤ k) ∧ Aside0 (Below w.heap.size w wc))
    case first =>
      have H := HC7.out
      clear HC7
      by_cases c9 : t182 = true
      · subst c9
        have H1 : (tartanlaw03_CsvBreaks.j0 k l0 a1 a2 true ((l0.length : Int) == 0)) = some r := by rw [if_pos rfl] at H; exact H
        clear H
        have H := H1
        clear H1
        have H' := Aside0.mk H
        clear H
        go_wp2
        go_meet
        case rel => exact ⟨_, (((l0.length : Int) == 0)), (by first | rfl | (simp; done) | (simp [*]; done)), H', ⟨by first | omega | exact Nat.le_refl _⟩, ⟨by repeat (first | (with_reducible first | exact HB.out | apply below_alloc | apply pw_below_drewN | apply below_drew1) | exact HB.out)⟩⟩
      · replace c9 := Bool.eq_false_iff.mpr c9
        subst c9
        have H1 : (tartanlaw03_CsvBreaks.j0 k l0 a1 a2 true true) = some r := by rw [if_neg (show ¬ (false = true) by decide)] at H; exact H
        clear H
        have H := H1
        clear H1
        have H' := Aside0.mk H
        clear H
        go_wp2
        go_meet
        case rel => exact ⟨_, (true), (by first | rfl | (simp; done) | (simp [*]; done)), H', ⟨by first | omega | exact Nat.le_refl _⟩, ⟨by repeat (first | (with_reducible first | exact HB.out | apply below_alloc | apply pw_below_drewN | apply below_drew1) | exact HB.out)⟩⟩
    case rest =>
      clear HC7
      try clear c1
      try clear p2
      try clear c3
      try clear c4
      try clear c5
      try clear c9
      obtain ⟨kq, x34_6, rfl, HA, HJ6, HB⟩ := hcut
      cases kq with
      | zero => exact absurd HA.out (by simp [tartanlaw03_CsvBreaks.j0])
      | succ kj6 =>
        have H := HA.out
        clear HA
        simp only [tartanlaw03_CsvBreaks.j0] at H
        by_cases c10 : x34_6 = true
        · subst c10
          have H1 : (some true) = some r := by rw [if_pos rfl] at H; exact H
          clear H
          have H := H1
          clear H1
          obtain rfl := Option.some.inj H
          go_wp2
          go_ret
          exact ⟨by first | rfl | (simp [errW_none, errW_some] <;> rfl) | (simp [*, errW_none, errW_some] <;> rfl), by repeat (first | (with_reducible first | exact HB.out | apply below_alloc | apply pw_below_drewN | apply below_drew1) | exact HB.out)⟩
        · replace c10 := Bool.eq_false_iff.mpr c10
          subst c10
          have H1 : ((csv_Print.f l0 a1 a2).bind fun bt183 => ((csv_Print.f l0 a1 (!a2)).bind fun bt185 => (if bt183.2 = 0 then (tartanlaw03_CsvBreaks.j1 kj6 l0 a1 a2 true bt183.1 bt183.2 bt185.1 bt185.2 (bt185.2 != 0)) else (tartanlaw03_CsvBreaks.j1 kj6 l0 a1 a2 true bt183.1 bt183.2 bt185.1 bt185.2 true)))) = some r := by rw [if_neg (show ¬ (false = true) by decide)] at H; exact H
          clear H
          have H := H1
          clear H1
          replace H := Option.bind_eq_some_iff.mp H
          obtain ⟨⟨t183, t184⟩, A110, H⟩ := H
          replace H : ((csv_Print.f l0 a1 (!a2)).bind fun bt185 => (if t184 = 0 then (tartanlaw03_CsvBreaks.j1 kj6 l0 a1 a2 true t183 t184 bt185.1 bt185.2 (bt185.2 != 0)) else (tartanlaw03_CsvBreaks.j1 kj6 l0 a1 a2 true t183 t184 bt185.1 bt185.2 true))) = some r := H
          have A11 := Aside0.mk A110
          clear A110
          replace H := Option.bind_eq_some_iff.mp H
          obtain ⟨⟨t185, t186⟩, A120, H⟩ := H
          replace H : (if t184 = 0 then (tartanlaw03_CsvBreaks.j1 kj6 l0 a1 a2 true t183 t184 t185 t186 (t186 != 0)) else (tartanlaw03_CsvBreaks.j1 kj6 l0 a1 a2 true t183 t184 t185 t186 true)) = some r := H
          have A12 := Aside0.mk A120
          clear A120
          have HC13 := Aside0.mk H
          clear H
          go_upto_region 9 with (first | ((with_reducible refine gate_callee (f := 44) rfl ?_); refine goesL_ (some 40) rfl rfl Try.func44 (by kernel_rfl) rfl #[.slice A0 l0.length c0, .int .u8 a1, .bool a2] rfl (by (try simp only [List.map_toArray, List.map_cons, List.map_nil]); first | done | rfl | (simp only [List.length_drop, List.length_take]; rfl)) ?_; (with_reducible refine (csv_Print.calls _ _ l0 a1 a2 t183 t184 _ ?side1 ?side2 A11.out).mono ?_); (case side1 => repeat (first | exact (Kd.C_below HR0.out HB.out) | (with_reducible refine Kd.C_alloc ?_ _) | (with_reducible refine Kd.C_drewN ?_ _) | (with_reducible refine Kd.C_drew ?_))); (case side2 => exact HC0.out); rintro e w14 ⟨rfl, hb⟩; refine ⟨_, rfl, ?_⟩; have n0_ := Aside0.mk (below_step (by repeat (first | (with_reducible first | exact HB.out | apply below_alloc | apply pw_below_drewN | apply below_drew1) | exact HB.out)) hb); clear HB; have HB := n0_; clear n0_; (try clear hb); (try clear hb2); (try clear hk); (try clear hi)) | ((with_reducible refine gate_callee (f := 44) rfl ?_); refine goesL_ (some 48) rfl rfl Try.func44 (by kernel_rfl) rfl #[.slice A0 l0.length c0, .int .u8 a1, .bool (!a2)] rfl (by (try simp only [List.map_toArray, List.map_cons, List.map_nil]); first | done | rfl | (simp only [List.length_drop, List.length_take]; rfl)) ?_; (with_reducible refine (csv_Print.calls _ _ l0 a1 (!a2) t185 t186 _ ?side1 ?side2 A12.out).mono ?_); (case side1 => repeat (first | exact (Kd.C_below HR0.out HB.out) | (with_reducible refine Kd.C_alloc ?_ _) | (with_reducible refine Kd.C_drewN ?_ _) | (with_reducible refine Kd.C_drew ?_))); (case side2 => exact HC0.out); rintro e w15 ⟨rfl, hb⟩; refine ⟨_, rfl, ?_⟩; have n0_ := Aside0.mk (below_step (by repeat (first | (with_reducible first | exact HB.out | apply below_alloc | apply pw_below_drewN | apply below_drew1) | exact HB.out)) hb); clear HB; have HB := n0_; clear n0_; (try clear hb); (try clear hb2); (try clear hk); (try clear hi)))
          (try simp only [Act.put, List.setIfInBounds_toArray, List.set_cons_zero, List.set_cons_succ])
          go_cut [56] (fun v56 wc => ∃ (kq : Nat) (x56_12 : Bool), v56 = .bool x56_12 ∧ Aside0 (tartanlaw03_CsvBreaks.j1 kq l0 a1 a2 true t183 t184 t185 t186 x56_12 = some r) ∧ Aside0 (kq ≤ kj6) ∧ Aside0 (Below w.heap.size w wc))
          case first =>
            have H := HC13.out
            clear HC13
            by_cases c16 : t184 = 0
            · rw [if_pos c16] at H
              have c16b0 : (t184 == 0) = true := beq_iff_eq.mpr c16
              have c16b1 : (t184 != 0) = false := bne_eq_false_iff_eq.mpr c16
              clear c16
              (first | rw [c16b0] | (simp only [i64_w, i32_w]; rw [c16b0]) | skip)
              have H' := Aside0.mk H
              clear H
              go_wp2
              go_meet
              case rel => exact ⟨_, ((t186 != 0)), (by first | rfl | (simp; done) | (simp [*]; done)), H', ⟨by have := HJ6.out; first | omega | exact Nat.le_refl _⟩, ⟨by repeat (first | (with_reducible first | exact HB.out | apply below_alloc | apply pw_below_drewN | apply below_drew1) | exact HB.out)⟩⟩
            · rw [if_neg c16] at H
              have c16b0 : (t184 == 0) = false := beq_eq_false_iff_ne.mpr c16
              have c16b1 : (t184 != 0) = true := bne_iff_ne.mpr c16
              (first | rw [c16b0] | (simp only [i64_w, i32_w]; rw [c16b0]) | skip)
              have H' := Aside0.mk H
              clear H
              go_wp2
              go_meet
              case rel => exact ⟨_, (true), (by first | rfl | (simp; done) | (simp [*]; done)), H', ⟨by have := HJ6.out; first | omega | exact Nat.le_refl _⟩, ⟨by repeat (first | (with_reducible first | exact HB.out | apply below_alloc | apply pw_below_drewN | apply below_drew1) | exact HB.out)⟩⟩
          case rest =>
            clear HC13
            try clear c1
            try clear p2
            try clear c3
            try clear c4
            try clear c5
            try clear c9
            try clear c10
            try clear c15
            try clear c16
            try clear c16b0
            try clear c16b1
            try clear p2
            obtain ⟨kq, x56_12, rfl, HA, HJ12, HB⟩ := hcut
            cases kq with
            | zero => exact absurd HA.out (by simp [tartanlaw03_CsvBreaks.j1])
            | succ kj12 =>
              have H := HA.out
              clear HA
              simp only [tartanlaw03_CsvBreaks.j1] at H
              by_cases c17 : x56_12 = true
              · subst c17
                have H1 : (if true = true then (some (t184 == t186)) else (some false)) = some r := by rw [if_pos rfl] at H; exact H
                clear H
                have H := H1
                clear H1
                have H1 : (some (t184 == t186)) = some r := by first | (rw [if_pos rfl] at H; exact H) | (rw [if_pos trivial] at H; exact H) | (rw [if_neg not_false] at H; exact H) | simpa using H
                clear H
                have H := H1
                clear H1
                obtain rfl := Option.some.inj H
                go_wp2
                go_ret
                exact ⟨by first | rfl | (simp [errW_none, errW_some] <;> rfl) | (simp [*, errW_none, errW_some] <;> rfl), by repeat (first | (with_reducible first | exact HB.out | apply below_alloc | apply pw_below_drewN | apply below_drew1) | exact HB.out)⟩
              · replace c17 := Bool.eq_false_iff.mpr c17
                subst c17
                have H1 : (if 0 ≤ (wrap64 ((l0.length : Int) - 1)) then (if (wrap64 ((l0.length : Int) - 1)) < (l0.length : Int) then ((lex_Break.f kj12 t183 (wrap64 ((t183.size : Int) - 1))).bind fun t188 => (if 0 ≤ (wrap64 ((t183.size : Int) - t188)) then (if (wrap64 ((t183.size : Int) - t188)) ≤ (t183.size : Int) then (if a2 = true then (if 0 ≤ (wrap64 ((t183.size : Int) - 2)) then (if (wrap64 ((t183.size : Int) - 2)) ≤ (t183.size : Int) then (tartanlaw03_CsvBreaks.j2 kj12 l0 a1 true t185 (rd_L1 l0 (wrap64 ((l0.length : Int) - 1))) (t183.extract 0 ((wrap64 ((t183.size : Int) - 2)) : Int).toNat)) else (none)) else (none)) else (tartanlaw03_CsvBreaks.j2 kj12 l0 a1 true t185 (rd_L1 l0 (wrap64 ((l0.length : Int) - 1))) (t183.extract 0 ((wrap64 ((t183.size : Int) - t188)) : Int).toNat))) else (none)) else (none))) else (none)) else (none)) = some r := by rw [if_neg (show ¬ (false = true) by decide)] at H; exact H
                clear H
                have H := H1
                clear H1
                obtain ⟨ji18, hji18⟩ : ∃ j_ : Int, (wrap64 ((l0.length : Int) - 1)) = j_ := ⟨_, rfl⟩
                replace H : (if 0 ≤ (ji18) then (if (ji18) < (l0.length : Int) then ((lex_Break.f kj12 t183 (wrap64 ((t183.size : Int) - 1))).bind fun t188 => (if 0 ≤ (wrap64 ((t183.size : Int) - t188)) then (if (wrap64 ((t183.size : Int) - t188)) ≤ (t183.size : Int) then (if a2 = true then (if 0 ≤ (wrap64 ((t183.size : Int) - 2)) then (if (wrap64 ((t183.size : Int) - 2)) ≤ (t183.size : Int) then (tartanlaw03_CsvBreaks.j2 kj12 l0 a1 true t185 (rd_L1 l0 (ji18)) (t183.extract 0 ((wrap64 ((t183.size : Int) - 2)) : Int).toNat)) else (none)) else (none)) else (tartanlaw03_CsvBreaks.j2 kj12 l0 a1 true t185 (rd_L1 l0 (ji18)) (t183.extract 0 ((wrap64 ((t183.size : Int) - t188)) : Int).toNat))) else (none)) else (none))) else (none)) else (none)) = some r := by first | (rw [hji18] at H; exact H) | (simp only [hji18] at H ⊢; exact H)
                have hji18w : (IntKind.i64.wrap ((l0.length : Int) - 1)) = ji18 := (i64_w _).trans hji18
                by_cases c19 : 0 ≤ (ji18)
                · rw [if_pos c19] at H
                  have c19b0 : decide (0 ≤ (ji18)) = true := decide_eq_true c19
                  clear c19
                  by_cases c20 : (ji18) < (l0.length : Int)
                  · rw [if_pos c20] at H
                    have c20b0 : decide ((ji18) < (l0.length : Int)) = true := decide_eq_true c20
                    clear c20
                    replace H := Option.bind_eq_some_iff.mp H
                    obtain ⟨t188, A210, H⟩ := H
                    replace H : (if 0 ≤ (wrap64 ((t183.size : Int) - t188)) then (if (wrap64 ((t183.size : Int) - t188)) ≤ (t183.size : Int) then (if a2 = true then (if 0 ≤ (wrap64 ((t183.size : Int) - 2)) then (if (wrap64 ((t183.size : Int) - 2)) ≤ (t183.size : Int) then (tartanlaw03_CsvBreaks.j2 kj12 l0 a1 true t185 (rd_L1 l0 (ji18)) (t183.extract 0 ((wrap64 ((t183.size : Int) - 2)) : Int).toNat)) else (none)) else (none)) else (tartanlaw03_CsvBreaks.j2 kj12 l0 a1 true t185 (rd_L1 l0 (ji18)) (t183.extract 0 ((wrap64 ((t183.size : Int) - t188)) : Int).toNat))) else (none)) else (none)) = some r := H
                    have A21 := Aside0.mk A210
                    clear A210
                    obtain ⟨ji22, hji22⟩ : ∃ j_ : Int, (wrap64 ((t183.size : Int) - t188)) = j_ := ⟨_, rfl⟩
                    replace H : (if 0 ≤ (ji22) then (if (ji22) ≤ (t183.size : Int) then (if a2 = true then (if 0 ≤ (wrap64 ((t183.size : Int) - 2)) then (if (wrap64 ((t183.size : Int) - 2)) ≤ (t183.size : Int) then (tartanlaw03_CsvBreaks.j2 kj12 l0 a1 true t185 (rd_L1 l0 (ji18)) (t183.extract 0 ((wrap64 ((t183.size : Int) - 2)) : Int).toNat)) else (none)) else (none)) else (tartanlaw03_CsvBreaks.j2 kj12 l0 a1 true t185 (rd_L1 l0 (ji18)) (t183.extract 0 ((ji22) : Int).toNat))) else (none)) else (none)) = some r := by first | (rw [hji22] at H; exact H) | (simp only [hji22] at H ⊢; exact H)
                    (try rw [hji22] at A21)
                    have hji22w : (IntKind.i64.wrap ((t183.size : Int) - t188)) = ji22 := (i64_w _).trans hji22
                    by_cases c23 : 0 ≤ (ji22)
                    · rw [if_pos c23] at H
                      have c23b0 := eq_true c23
                      have c23b1 : decide (0 ≤ (ji22)) = true := decide_eq_true c23
                      clear c23
                      by_cases c24 : (ji22) ≤ (t183.size : Int)
                      · rw [if_pos c24] at H
                        have c24b0 := eq_true c24
                        have c24b1 : decide ((ji22) ≤ (t183.size : Int)) = true := decide_eq_true c24
                        clear c24
                        have HC25 := Aside0.mk H
                        clear H
                        have p187 : 0 ≤ ((ji18) : Int) := of_decide_eq_true (by first | (with_reducible assumption) | assumption)
                        have q187 : (ji18) < (l0.length : Int) := of_decide_eq_true (by first | (with_reducible assumption) | assumption)
                        obtain ⟨ad187, A187_0, c187_0, e187, hx187_0, hl187_0, hi187_0⟩ := at_L1 HR0.out (ji18) p187 q187
                        cases e187
                        replace hx187_0 := (HB.out.cell (World.block_lt_of_cell? w _ hx187_0)).trans hx187_0
                        have HR187_0 := Aside0.mk hi187_0
                        have HC187_0 := Aside0.mk hl187_0
                        clear hi187_0 hl187_0
                        replace p187 := eq_true p187
                        replace q187 := eq_true q187
                        go_upto_if 79 with (first | ((with_reducible refine gate_callee (f := 36) rfl ?_); refine goesL_ (some 76) rfl rfl Try.func36 (by kernel_rfl) rfl #[.string t183, .int .i64 (wrap64 ((t183.size : Int) - 1))] rfl (by (try simp only [List.map_toArray, List.map_cons, List.map_nil]); first | done | rfl | (simp only [List.length_drop, List.length_take]; rfl)) ?_; (with_reducible refine (lex_Break.calls kj12 t183 (wrap64 ((t183.size : Int) - 1)) t188 _ A21.out).mono ?_); rintro e w' ⟨rfl, ⟨nd, rfl⟩⟩; refine ⟨_, rfl, ?_⟩))
                        (try simp only [Act.put, List.setIfInBounds_toArray, List.set_cons_zero, List.set_cons_succ])
                        go_cut [14] (fun v14 wc => ∃ (kq : Nat) (x14_24 : ByteArray), v14 = .string x14_24 ∧ Aside0 (tartanlaw03_CsvBreaks.j2 kq l0 a1 true t185 (rd_L1 l0 (ji18)) x14_24 = some r) ∧ Aside0 (kq ≤ kj12) ∧ Aside0 (Below w.heap.size w wc))
                        case first =>
                          have H := HC25.out
                          clear HC25
                          by_cases c26 : a2 = true
                          · subst c26
                            have H1 : (if 0 ≤ (wrap64 ((t183.size : Int) - 2)) then (if (wrap64 ((t183.size : Int) - 2)) ≤ (t183.size : Int) then (tartanlaw03_CsvBreaks.j2 kj12 l0 a1 true t185 (rd_L1 l0 (ji18)) (t183.extract 0 ((wrap64 ((t183.size : Int) - 2)) : Int).toNat)) else (none)) else (none)) = some r := by rw [if_pos rfl] at H; exact H
                            clear H
                            have H := H1
                            clear H1
                            obtain ⟨ji27, hji27⟩ : ∃ j_ : Int, (wrap64 ((t183.size : Int) - 2)) = j_ := ⟨_, rfl⟩
                            replace H : (if 0 ≤ (ji27) then (if (ji27) ≤ (t183.size : Int) then (tartanlaw03_CsvBreaks.j2 kj12 l0 a1 true t185 (rd_L1 l0 (ji18)) (t183.extract 0 ((ji27) : Int).toNat)) else (none)) else (none)) = some r := by first | (rw [hji27] at H; exact H) | (simp only [hji27] at H ⊢; exact H)
                            have hji27w : (IntKind.i64.wrap ((t183.size : Int) - 2)) = ji27 := (i64_w _).trans hji27
                            by_cases c28 : 0 ≤ (ji27)
                            · rw [if_pos c28] at H
                              have c28b0 := eq_true c28
                              have c28b1 : decide (0 ≤ (ji27)) = true := decide_eq_true c28
                              clear c28
                              by_cases c29 : (ji27) ≤ (t183.size : Int)
                              · rw [if_pos c29] at H
                                have c29b0 := eq_true c29
                                have c29b1 : decide ((ji27) ≤ (t183.size : Int)) = true := decide_eq_true c29
                                clear c29
                                have H' := Aside0.mk H
                                clear H
                                go_wp2
                                go_meet
                                case rel => exact ⟨_, (t183.extract 0 ((ji27) : Int).toNat), (by first | rfl | (simp; done) | (simp only [← hji27] <;> (first | rfl | simp)) | (simp [*]; done)), H', ⟨by have := HJ6.out; have := HJ12.out; first | omega | exact Nat.le_refl _⟩, ⟨by repeat (first | (with_reducible first | exact HB.out | apply below_alloc | apply pw_below_drewN | apply below_drew1) | exact HB.out)⟩⟩
                              · rw [if_neg c29] at H
                                exact absurd H (by simp)
                            · rw [if_neg c28] at H
                              exact absurd H (by simp)
                          · replace c26 := Bool.eq_false_iff.mpr c26
                            subst c26
                            have H1 : (tartanlaw03_CsvBreaks.j2 kj12 l0 a1 true t185 (rd_L1 l0 (ji18)) (t183.extract 0 ((ji22) : Int).toNat)) = some r := by rw [if_neg (show ¬ (false = true) by decide)] at H; exact H
                            clear H
                            have H := H1
                            clear H1
                            have H' := Aside0.mk H
                            clear H
                            go_wp2
                            go_meet
                            case rel => exact ⟨_, (t183.extract 0 ((ji22) : Int).toNat), (by first | rfl | (simp; done) | (simp only [← hji22] <;> (first | rfl | simp)) | (simp [*]; done)), H', ⟨by have := HJ6.out; have := HJ12.out; first | omega | exact Nat.le_refl _⟩, ⟨by repeat (first | (with_reducible first | exact HB.out | apply below_alloc | apply pw_below_drewN | apply below_drew1) | exact HB.out)⟩⟩
                        case rest =>
                          clear HC25
                          try clear c1
                          try clear p1
                          try clear q1
                          try clear hx1
                          try clear c2
                          try clear p2
                          try clear c3
                          try clear c4
                          try clear c5
                          try clear p6
                          try clear c9
                          try clear c10
                          try clear c15
                          try clear c16
                          try clear c16b0
                          try clear c16b1
                          try clear c17
                          try clear c18
                          try clear p18
                          try clear q18
                          try clear hx18
                          try clear c19
                          try clear c19b0
                          try clear c20
                          try clear c20b0
                          try clear c23
                          try clear c23b0
                          try clear c23b1
                          try clear c24
                          try clear c24b0
                          try clear c24b1
                          try clear c26
                          try clear c28
                          try clear c28b0
                          try clear c28b1
                          try clear c29
                          try clear c29b0
                          try clear c29b1
                          try clear hx187_0
                          try clear p187
                          try clear p2
                          try clear q187
                          obtain ⟨kq, x14_24, rfl, HA, HJ24, HB⟩ := hcut
                          cases kq with
                          | zero => exact absurd HA.out (by simp [tartanlaw03_CsvBreaks.j2])
                          | succ kj24 =>
                            have H := HA.out
                            clear HA
                            simp only [tartanlaw03_CsvBreaks.j2] at H
                            replace H := Option.bind_eq_some_iff.mp H
                            obtain ⟨⟨t189, t190, t191⟩, A300, H⟩ := H
                            replace H : (if t191 = 0 then (tartanlaw03_CsvBreaks.j3 kj24 l0 a1 true t185 (rd_L1 l0 (ji18)) t189 (t190 != 0)) else (tartanlaw03_CsvBreaks.j3 kj24 l0 a1 true t185 (rd_L1 l0 (ji18)) t189 true)) = some r := H
                            have A30 := Aside0.mk A300
                            clear A300
                            have HC31 := Aside0.mk H
                            clear H
                            go_upto_region 16 with (first | ((with_reducible refine gate_callee (f := 40) rfl ?_); refine goesL_ (some 88) rfl rfl Try.func40 (by kernel_rfl) rfl #[.string x14_24, .int .u8 a1] rfl (by (try simp only [List.map_toArray, List.map_cons, List.map_nil]); first | done | rfl | (simp only [List.length_drop, List.length_take]; rfl)) ?_; (with_reducible refine (csv_Parse.calls x14_24 a1 t189 t190 t191 _ A30.out).mono ?_); rintro e w32 ⟨v192, rfl, ho0, hb⟩; refine ⟨_, rfl, ?_⟩; have n0_ := Aside0.mk (Kd.S_lower ho0 (below_size (by repeat (first | (with_reducible first | exact HB.out | apply below_alloc | apply pw_below_drewN | apply below_drew1) | exact HB.out)))); have n1_ := Aside0.mk (below_step (by repeat (first | (with_reducible first | exact HB.out | apply below_alloc | apply pw_below_drewN | apply below_drew1) | exact HB.out)) hb); clear HB; have HO193 := n0_; have HB := n1_; clear n0_ n1_; (try clear hb); (try clear hb2); (try clear hk); (try clear hi); (try clear ho0)))
                            (try simp only [Act.put, List.setIfInBounds_toArray, List.set_cons_zero, List.set_cons_succ])
                            go_cut [97] (fun v97 wc => ∃ (kq : Nat) (x97_30 : Bool), v97 = .bool x97_30 ∧ Aside0 (tartanlaw03_CsvBreaks.j3 kq l0 a1 true t185 (rd_L1 l0 (ji18)) t189 x97_30 = some r) ∧ Aside0 (kq ≤ kj24) ∧ Aside0 (Kd.S (Kd.slice 9 Kd.string) 38 wc w.heap.size (fun _ => True) v192 t189) ∧ Aside0 (Below w.heap.size w wc))
                            case first =>
                              have H := HC31.out
                              clear HC31
                              by_cases c33 : t191 = 0
                              · rw [if_pos c33] at H
                                have c33b0 : (t191 == 0) = true := beq_iff_eq.mpr c33
                                have c33b1 : (t191 != 0) = false := bne_eq_false_iff_eq.mpr c33
                                clear c33
                                (first | rw [c33b0] | (simp only [i64_w, i32_w]; rw [c33b0]) | skip)
                                have H' := Aside0.mk H
                                clear H
                                go_wp2
                                go_meet
                                case rel => exact ⟨_, ((t190 != 0)), (by first | rfl | (simp; done) | (simp [*]; done)), H', ⟨by have := HJ6.out; have := HJ12.out; have := HJ24.out; first | omega | exact Nat.le_refl _⟩, ⟨by (with_reducible repeat (first | apply Kd.S_alloc | apply Kd.S_drewN | apply Kd.S_drew)); exact HO193.out⟩, ⟨by repeat (first | (with_reducible first | exact HB.out | apply below_alloc | apply pw_below_drewN | apply below_drew1) | exact HB.out)⟩⟩
                              · rw [if_neg c33] at H
                                have c33b0 : (t191 == 0) = false := beq_eq_false_iff_ne.mpr c33
                                have c33b1 : (t191 != 0) = true := bne_iff_ne.mpr c33
                                (first | rw [c33b0] | (simp only [i64_w, i32_w]; rw [c33b0]) | skip)
                                have H' := Aside0.mk H
                                clear H
                                go_wp2
                                go_meet
                                case rel => exact ⟨_, (true), (by first | rfl | (simp; done) | (simp [*]; done)), H', ⟨by have := HJ6.out; have := HJ12.out; have := HJ24.out; first | omega | exact Nat.le_refl _⟩, ⟨by (with_reducible repeat (first | apply Kd.S_alloc | apply Kd.S_drewN | apply Kd.S_drew)); exact HO193.out⟩, ⟨by repeat (first | (with_reducible first | exact HB.out | apply below_alloc | apply pw_below_drewN | apply below_drew1) | exact HB.out)⟩⟩
                            case rest =>
                              clear HC31
                              try clear c1
                              try clear p1
                              try clear q1
                              try clear hx1
                              try clear c2
                              try clear p2
                              try clear c3
                              try clear c4
                              try clear c5
                              try clear p6
                              try clear c9
                              try clear c10
                              try clear c15
                              try clear c16
                              try clear c16b0
                              try clear c16b1
                              try clear c17
                              try clear c18
                              try clear p18
                              try clear q18
                              try clear hx18
                              try clear c19
                              try clear c19b0
                              try clear c20
                              try clear c20b0
                              try clear c23
                              try clear c23b0
                              try clear c23b1
                              try clear c24
                              try clear c24b0
                              try clear c24b1
                              try clear c26
                              try clear c28
                              try clear c28b0
                              try clear c28b1
                              try clear c29
                              try clear c29b0
                              try clear c29b1
                              try clear c33
                              try clear c33b0
                              try clear c33b1
                              try clear hx187_0
                              try clear p1
                              try clear p18
                              try clear p187
                              try clear p2
                              try clear p6
                              try clear q1
                              try clear q18
                              try clear q187
                              obtain ⟨kq, x97_30, rfl, HA, HJ30, HO_15, HB⟩ := hcut
                              cases kq with
                              | zero => exact absurd HA.out (by simp [tartanlaw03_CsvBreaks.j3])
                              | succ kj30 =>
                                have H := HA.out
                                clear HA
                                simp only [tartanlaw03_CsvBreaks.j3] at H
                                by_cases c34 : x97_30 = true
                                · subst c34
                                  have H1 : (some false) = some r := by rw [if_pos rfl] at H; exact H
                                  clear H
                                  have H := H1
                                  clear H1
                                  obtain rfl := Option.some.inj H
                                  go_wp2
                                  go_ret
                                  exact ⟨by first | rfl | (simp [errW_none, errW_some] <;> rfl) | (simp only [← hji18, ← hji22]; first | rfl | (simp [errW_none, errW_some] <;> rfl)) | (simp [*, errW_none, errW_some] <;> rfl), by repeat (first | (with_reducible first | exact HB.out | apply below_alloc | apply pw_below_drewN | apply below_drew1) | exact HB.out)⟩
                                · replace c34 := Bool.eq_false_iff.mpr c34
                                  subst c34
                                  have H1 : (if ((rd_L1 l0 (ji18)).length : Int) = 1 then (if 0 < ((rd_L1 l0 (ji18)).length : Int) then (tartanlaw03_CsvBreaks.j4 kj30 l0 a1 true t185 t189 ((rdOf ByteArray.empty (rd_L1 l0 (ji18)) 0).toList == ([] : List UInt8))) else (none)) else (tartanlaw03_CsvBreaks.j4 kj30 l0 a1 true t185 t189 false)) = some r := by rw [if_neg (show ¬ (false = true) by decide)] at H; exact H
                                  clear H
                                  have H := H1
                                  clear H1
                                  have HC35 := Aside0.mk H
                                  clear H
                                  go_upto_region 18 with (fail)
                                  go_cut [106] (fun v106 wc => ∃ (kq : Nat) (x106_34 : Bool), v106 = .bool x106_34 ∧ Aside0 (tartanlaw03_CsvBreaks.j4 kq l0 a1 true t185 t189 x106_34 = some r) ∧ Aside0 (kq ≤ kj30) ∧ Aside0 (Kd.S (Kd.slice 9 Kd.string) 38 wc w.heap.size (fun _ => True) v192 t189) ∧ Aside0 (Below w.heap.size w wc))
                                  case first =>
                                    have H := HC35.out
                                    clear HC35
                                    by_cases c36 : ((rd_L1 l0 (ji18)).length : Int) = 1
                                    · rw [if_pos c36] at H
                                      have c36b0 : (((rd_L1 l0 (ji18)).length : Int) == 1) = true := beq_iff_eq.mpr c36
                                      have c36b1 : (((rd_L1 l0 (ji18)).length : Int) != 1) = false := bne_eq_false_iff_eq.mpr c36
                                      clear c36
                                      (first | rw [c36b0] | (simp only [i64_w, i32_w]; rw [c36b0]) | skip)
                                      by_cases c37 : 0 < ((rd_L1 l0 (ji18)).length : Int)
                                      · rw [if_pos c37] at H
                                        have c37b0 : decide (0 < ((rd_L1 l0 (ji18)).length : Int)) = true := decide_eq_true c37
                                        have c37b1 : decide (0 < (rd_L1 l0 (ji18)).length) = true := decide_eq_true (by omega)
                                        clear c37
                                        have H' := Aside0.mk H
                                        clear H
                                        have p194 : 0 ≤ (0 : Int) := (by omega)
                                        have q194 : 0 < ((rd_L1 l0 (ji18)).length : Int) := of_decide_eq_true (by first | (with_reducible assumption) | assumption)
                                        obtain ⟨ad194, e194, hx194_0⟩ := Kd.at_string HR187_0.out 0 p194 q194
                                        cases e194
                                        have qi194 : (0 < (rd_L1 l0 (ji18)).length) = True := eq_true (by omega)
                                        (try rw [show ((0 : Int)).toNat = 0 from rfl] at hx194_0)
                                        (try rw [Addr.add_zero'] at hx194_0)
                                        replace hx194_0 := (HB.out.cell (World.block_lt_of_cell? w _ hx194_0)).trans hx194_0
                                        replace p194 := eq_true p194
                                        replace q194 := eq_true q194
                                        go_wp2
                                        go_meet
                                        case rel => exact ⟨_, (((rdOf ByteArray.empty (rd_L1 l0 (ji18)) 0).toList == ([] : List UInt8))), (by first | rfl | (simp; done) | (simp only [← hji18] <;> (first | rfl | simp)) | (simp [*]; done)), H', ⟨by have := HJ6.out; have := HJ12.out; have := HJ24.out; have := HJ30.out; first | omega | exact Nat.le_refl _⟩, ⟨by (with_reducible repeat (first | apply Kd.S_alloc | apply Kd.S_drewN | apply Kd.S_drew)); exact HO_15.out⟩, ⟨by repeat (first | (with_reducible first | exact HB.out | apply below_alloc | apply pw_below_drewN | apply below_drew1) | exact HB.out)⟩⟩
                                      · rw [if_neg c37] at H
                                        exact absurd H (by simp)
                                    · rw [if_neg c36] at H
                                      have c36b0 : (((rd_L1 l0 (ji18)).length : Int) == 1) = false := beq_eq_false_iff_ne.mpr c36
                                      have c36b1 : (((rd_L1 l0 (ji18)).length : Int) != 1) = true := bne_iff_ne.mpr c36
                                      (first | rw [c36b0] | (simp only [i64_w, i32_w]; rw [c36b0]) | skip)
                                      have H' := Aside0.mk H
                                      clear H
                                      go_wp2
                                      go_meet
                                      case rel => exact ⟨_, (false), (by first | rfl | (simp; done) | (simp [*]; done)), H', ⟨by have := HJ6.out; have := HJ12.out; have := HJ24.out; have := HJ30.out; first | omega | exact Nat.le_refl _⟩, ⟨by (with_reducible repeat (first | apply Kd.S_alloc | apply Kd.S_drewN | apply Kd.S_drew)); exact HO_15.out⟩, ⟨by repeat (first | (with_reducible first | exact HB.out | apply below_alloc | apply pw_below_drewN | apply below_drew1) | exact HB.out)⟩⟩
                                  case rest =>
                                    clear HC35
                                    try clear c1
                                    try clear p1
                                    try clear q1
                                    try clear hx1
                                    try clear qi1
                                    try clear c2
                                    try clear p2
                                    try clear c3
                                    try clear c4
                                    try clear c5
                                    try clear p6
                                    try clear c9
                                    try clear c10
                                    try clear c15
                                    try clear c16
                                    try clear c16b0
                                    try clear c16b1
                                    try clear c17
                                    try clear c18
                                    try clear p18
                                    try clear q18
                                    try clear hx18
                                    try clear c19
                                    try clear c19b0
                                    try clear p19
                                    try clear q19
                                    try clear hx19
                                    try clear qi19
                                    try clear c20
                                    try clear c20b0
                                    try clear c23
                                    try clear c23b0
                                    try clear c23b1
                                    try clear c24
                                    try clear c24b0
                                    try clear c24b1
                                    try clear c26
                                    try clear c28
                                    try clear c28b0
                                    try clear c28b1
                                    try clear c29
                                    try clear c29b0
                                    try clear c29b1
                                    try clear c33
                                    try clear c33b0
                                    try clear c33b1
                                    try clear c34
                                    try clear c36
                                    try clear c36b0
                                    try clear c36b1
                                    try clear c37
                                    try clear c37b0
                                    try clear c37b1
                                    try clear hx187_0
                                    try clear hx194_0
                                    try clear p1
                                    try clear p18
                                    try clear p187
                                    try clear p194
                                    try clear p2
                                    try clear p6
                                    try clear q1
                                    try clear q18
                                    try clear q187
                                    try clear q194
                                    obtain ⟨kq, x106_34, rfl, HA, HJ34, HO_15, HB⟩ := hcut
                                    cases kq with
                                    | zero => exact absurd HA.out (by simp [tartanlaw03_CsvBreaks.j4])
                                    | succ kj34 =>
                                      have H := HA.out
                                      clear HA
                                      simp only [tartanlaw03_CsvBreaks.j4] at H
                                      by_cases c38 : x106_34 = true
                                      · subst c38
                                        have H1 : (if 0 ≤ (wrap64 ((l0.length : Int) - 1)) then (if (wrap64 ((l0.length : Int) - 1)) ≤ (l0.length : Int) then ((tartanref03_Same.f kj34 t189 (l0.take ((wrap64 ((l0.length : Int) - 1)) : Int).toNat)).bind fun t199 => (if true = true then (some t199) else (some false))) else (none)) else (none)) = some r := by rw [if_pos rfl] at H; exact H
                                        clear H
                                        have H := H1
                                        clear H1
                                        obtain ⟨ji39, hji39⟩ : ∃ j_ : Int, (wrap64 ((l0.length : Int) - 1)) = j_ := ⟨_, rfl⟩
                                        replace H : (if 0 ≤ (ji39) then (if (ji39) ≤ (l0.length : Int) then ((tartanref03_Same.f kj34 t189 (l0.take ((ji39) : Int).toNat)).bind fun t199 => (if true = true then (some t199) else (some false))) else (none)) else (none)) = some r := by first | (rw [hji39] at H; exact H) | (simp only [hji39] at H ⊢; exact H)
                                        have hji39w : (IntKind.i64.wrap ((l0.length : Int) - 1)) = ji39 := (i64_w _).trans hji39
                                        by_cases c40 : 0 ≤ (ji39)
                                        · rw [if_pos c40] at H
                                          have c40b0 := eq_true c40
                                          have c40b1 : decide (0 ≤ (ji39)) = true := decide_eq_true c40
                                          clear c40
                                          by_cases c41 : (ji39) ≤ (l0.length : Int)
                                          · rw [if_pos c41] at H
                                            have c41b0 := eq_true c41
                                            have c41b1 : decide ((ji39) ≤ (l0.length : Int)) = true := decide_eq_true c41
                                            clear c41
                                            obtain ⟨y195, hy195⟩ : ∃ y_ : List (List ByteArray), y_ = (l0.take ((ji39) : Int).toNat) := ⟨_, rfl⟩
                                            replace H : ((tartanref03_Same.f kj34 t189 y195).bind fun t199 => (if true = true then (some t199) else (some false))) = some r := by first | (rw [hy195]; with_reducible exact H) | (have H2_ := (Option.bind_some _ _).symm.trans H; rw [hy195]; with_reducible exact H2_) | (have H2_ := (Option.bind_some _ _).symm.trans H; with_reducible exact H2_) | with_reducible exact H | (rw [hy195]; exact H) | exact H
                                            have Ny195 := Aside0.mk hy195
                                            clear hy195
                                            replace H := Option.bind_eq_some_iff.mp H
                                            obtain ⟨t199, A420, H⟩ := H
                                            replace H : (if true = true then (some t199) else (some false)) = some r := H
                                            have A42 := Aside0.mk A420
                                            clear A420
                                            have H1 : (some t199) = some r := by first | (rw [if_pos rfl] at H; exact H) | (rw [if_pos trivial] at H; exact H) | (rw [if_neg not_false] at H; exact H) | simpa using H
                                            clear H
                                            have H := H1
                                            clear H1
                                            obtain rfl := Option.some.inj H
                                            have q43 : ((ji39) : Int) ≤ ((l0.length : Int) : Int) := of_decide_eq_true (by first | (with_reducible assumption) | assumption)
                                            obtain ⟨i043, hi043, _, hsz43, _⟩ := info_parts info38
                                            have hroom43 : l0.length ≤ c0 := HC0.out
                                            have hC43 : Kd.C (Kd.slice 9 Kd.string) _ (some ad187) l0.length l0 := HR0.out
                                            have hcut43 := cut_to (P := Try.prog) 41 38 .i64 Try.underlying41 hi043 (some ad187) l0.length c0 (ji39) (of_decide_eq_true (by first | (with_reducible assumption) | assumption)) q43 hroom43
                                            have hr43 := Kd.C_take (m := ((ji39) : Int).toNat) hC43 (by omega)
                                            have hy43 : y195.length = ((ji39) : Int).toNat := (by rw [Ny195.out, List.length_take]; omega)
                                            rw [← Ny195.out] at hr43
                                            rw [← hy43] at hcut43
                                            have HR198 := Aside0.mk hr43
                                            have HC198 := Aside0.mk (show y195.length ≤ c0 from by omega)
                                            clear hr43 hC43 hroom43 hi043 hsz43
                                            have KY43 := Aside0.mk hy43
                                            clear hy43
                                            replace q43 := eq_true q43
                                            have hjj_ : ji39 = ji18 := hji39.symm.trans hji18
                                            subst hjj_
                                            obtain ⟨Ao44, co44, eo44⟩ := Kd.S_slice HO_15.out
                                            subst eo44
                                            go_wp2_with (first | ((with_reducible refine gate_callee (f := 42) rfl ?_); refine goesL_ (some 113) rfl rfl Try.func42 (by kernel_rfl) rfl #[.slice Ao44 t189.length co44, .slice (some ad187) y195.length c0] rfl (by (try simp only [List.map_toArray, List.map_cons, List.map_nil]); first | done | rfl | (simp only [List.length_drop, List.length_take]; rfl)) ?_; (with_reducible refine (tartanref03_Same.calls kj34 _ _ t189 _ _ y195 t199 _ ?side1 ?side2 ?side3 ?side4 A42.out).mono ?_); (case side1 => repeat (first | exact (Kd.S_reads' HO_15.out).2.2 | (with_reducible refine Kd.C_alloc ?_ _) | (with_reducible refine Kd.C_drewN ?_ _) | (with_reducible refine Kd.C_drew ?_))); (case side2 => exact (Kd.S_reads' HO_15.out).2.1); (case side3 => repeat (first | exact (Kd.C_below HR198.out HB.out) | (with_reducible refine Kd.C_alloc ?_ _) | (with_reducible refine Kd.C_drewN ?_ _) | (with_reducible refine Kd.C_drew ?_))); (case side4 => exact HC198.out); rintro e w' ⟨rfl, ⟨nd, rfl⟩⟩; refine ⟨_, rfl, ?_⟩))
                                            go_ret
                                            exact ⟨by first | rfl | (simp [errW_none, errW_some] <;> rfl) | (simp only [← hji18, ← hji22, ← hji39]; first | rfl | (simp [errW_none, errW_some] <;> rfl)) | (simp [*, errW_none, errW_some] <;> rfl), by repeat (first | (with_reducible first | exact HB.out | apply below_alloc | apply pw_below_drewN | apply below_drew1) | exact HB.out)⟩
                                          · rw [if_neg c41] at H
                                            exact absurd H (by simp)
                                        · rw [if_neg c40] at H
                                          exact absurd H (by simp)
                                      · replace c38 := Bool.eq_false_iff.mpr c38
                                        subst c38
                                        have H1 : ((csv_Parse.f t185 a1).bind fun bt200 => ((tartanref03_Same.f kj34 t189 l0).bind fun t205 => (if t205 = true then ((tartanref03_Same.f kj34 bt200.1 l0).bind fun t206 => (if true = true then (if bt200.2.2 = 0 then (some t206) else (some false)) else (some false))) else (if true = true then (if bt200.2.2 = 0 then (some false) else (some false)) else (some false))))) = some r := by rw [if_neg (show ¬ (false = true) by decide)] at H; exact H
                                        clear H
                                        have H := H1
                                        clear H1
                                        replace H := Option.bind_eq_some_iff.mp H
                                        obtain ⟨⟨t200, t201, t202⟩, A450, H⟩ := H
                                        replace H : ((tartanref03_Same.f kj34 t189 l0).bind fun t205 => (if t205 = true then ((tartanref03_Same.f kj34 t200 l0).bind fun t206 => (if true = true then (if t202 = 0 then (some t206) else (some false)) else (some false))) else (if true = true then (if t202 = 0 then (some false) else (some false)) else (some false)))) = some r := H
                                        have A45 := Aside0.mk A450
                                        clear A450
                                        replace H := Option.bind_eq_some_iff.mp H
                                        obtain ⟨t205, A460, H⟩ := H
                                        replace H : (if t205 = true then ((tartanref03_Same.f kj34 t200 l0).bind fun t206 => (if true = true then (if t202 = 0 then (some t206) else (some false)) else (some false))) else (if true = true then (if t202 = 0 then (some false) else (some false)) else (some false))) = some r := H
                                        have A46 := Aside0.mk A460
                                        clear A460
                                        by_cases c47 : t205 = true
                                        · subst c47
                                          have H1 : ((tartanref03_Same.f kj34 t200 l0).bind fun t206 => (if true = true then (if t202 = 0 then (some t206) else (some false)) else (some false))) = some r := by rw [if_pos rfl] at H; exact H
                                          clear H
                                          have H := H1
                                          clear H1
                                          replace H := Option.bind_eq_some_iff.mp H
                                          obtain ⟨t206, A480, H⟩ := H
                                          replace H : (if true = true then (if t202 = 0 then (some t206) else (some false)) else (some false)) = some r := H
                                          have A48 := Aside0.mk A480
                                          clear A480
                                          have H1 : (if t202 = 0 then (some t206) else (some false)) = some r := by first | (rw [if_pos rfl] at H; exact H) | (rw [if_pos trivial] at H; exact H) | (rw [if_neg not_false] at H; exact H) | simpa using H
                                          clear H
                                          have H := H1
                                          clear H1
                                          by_cases c49 : t202 = 0
                                          · rw [if_pos c49] at H
                                            have c49b0 : (t202 == 0) = true := beq_iff_eq.mpr c49
                                            have c49b1 : (t202 != 0) = false := bne_eq_false_iff_eq.mpr c49
                                            clear c49
                                            obtain rfl := Option.some.inj H
                                            go_wp2_with (first | ((with_reducible refine gate_callee (f := 40) rfl ?_); refine goesL_ (some 121) rfl rfl Try.func40 (by kernel_rfl) rfl #[.string t185, .int .u8 a1] rfl (by (try simp only [List.map_toArray, List.map_cons, List.map_nil]); first | done | rfl | (simp only [List.length_drop, List.length_take]; rfl)) ?_; (with_reducible refine (csv_Parse.calls t185 a1 t200 t201 t202 _ A45.out).mono ?_); rintro e w50 ⟨v203, rfl, ho0, hb⟩; refine ⟨_, rfl, ?_⟩; have n0_ := Aside0.mk (Kd.S_elder' (by (with_reducible repeat (first | apply Kd.S_alloc | apply Kd.S_drewN | apply Kd.S_drew)); exact HO_15.out) (Kd.S_base ho0) hb); have n1_ := Aside0.mk (Kd.S_lower (Kd.S_new' ho0 (Kd.S_lt (by (with_reducible repeat (first | apply Kd.S_alloc | apply Kd.S_drewN | apply Kd.S_drew)); exact HO_15.out))) (below_size (by repeat (first | (with_reducible first | exact HB.out | apply below_alloc | apply pw_below_drewN | apply below_drew1) | exact HB.out)))); have n2_ := Aside0.mk (below_step (by repeat (first | (with_reducible first | exact HB.out | apply below_alloc | apply pw_below_drewN | apply below_drew1) | exact HB.out)) hb); clear HO_15; clear HB; have HO_15 := n0_; have HO204 := n1_; have HB := n2_; clear n0_ n1_ n2_; (try clear hb); (try clear hb2); (try clear hk); (try clear hi); (try clear ho0); obtain ⟨Ao51, co51, eo51⟩ := Kd.S_slice HO_15.out; subst eo51) | ((with_reducible refine gate_callee (f := 42) rfl ?_); refine goesL_ (some 127) rfl rfl Try.func42 (by kernel_rfl) rfl #[.slice Ao51 t189.length co51, .slice (some ad187) l0.length c0] rfl (by (try simp only [List.map_toArray, List.map_cons, List.map_nil]); first | done | rfl | (simp only [List.length_drop, List.length_take]; rfl)) ?_; (with_reducible refine (tartanref03_Same.calls kj34 _ _ t189 _ _ l0 true _ ?side1 ?side2 ?side3 ?side4 A46.out).mono ?_); (case side1 => repeat (first | exact (Kd.S_reads' HO_15.out).2.2 | (with_reducible refine Kd.C_alloc ?_ _) | (with_reducible refine Kd.C_drewN ?_ _) | (with_reducible refine Kd.C_drew ?_))); (case side2 => exact (Kd.S_reads' HO_15.out).2.1); (case side3 => repeat (first | exact (Kd.C_below HR0.out HB.out) | (with_reducible refine Kd.C_alloc ?_ _) | (with_reducible refine Kd.C_drewN ?_ _) | (with_reducible refine Kd.C_drew ?_))); (case side4 => exact HC0.out); rintro e w' ⟨rfl, ⟨nd, rfl⟩⟩; refine ⟨_, rfl, ?_⟩; obtain ⟨Ao52, co52, eo52⟩ := Kd.S_slice HO204.out; subst eo52) | (go_at_call 42; (with_reducible refine (tartanref03_Same.calls kj34 _ _ t200 _ _ l0 t206 _ ?side1 ?side2 ?side3 ?side4 A48.out).mono ?_); (case side1 => repeat (first | exact (Kd.S_reads' HO204.out).2.2 | (with_reducible refine Kd.C_alloc ?_ _) | (with_reducible refine Kd.C_drewN ?_ _) | (with_reducible refine Kd.C_drew ?_))); (case side2 => exact (Kd.S_reads' HO204.out).2.1); (case side3 => repeat (first | exact (Kd.C_below HR0.out (by repeat (first | (with_reducible first | exact HB.out | apply below_alloc | apply pw_below_drewN | apply below_drew1) | exact HB.out))) | (with_reducible refine Kd.C_alloc ?_ _) | (with_reducible refine Kd.C_drewN ?_ _) | (with_reducible refine Kd.C_drew ?_))); (case side4 => exact HC0.out); rintro e w' ⟨rfl, ⟨nd, rfl⟩⟩))
                                            go_ret
                                            exact ⟨by first | rfl | (simp [errW_none, errW_some] <;> rfl) | (simp only [← hji18, ← hji22]; first | rfl | (simp [errW_none, errW_some] <;> rfl)) | (simp [*, errW_none, errW_some] <;> rfl), by repeat (first | (with_reducible first | exact HB.out | apply below_alloc | apply pw_below_drewN | apply below_drew1) | exact HB.out)⟩
                                          · rw [if_neg c49] at H
                                            have c49b0 : (t202 == 0) = false := beq_eq_false_iff_ne.mpr c49
                                            have c49b1 : (t202 != 0) = true := bne_iff_ne.mpr c49
                                            obtain rfl := Option.some.inj H
                                            go_wp2_with (first | ((with_reducible refine gate_callee (f := 40) rfl ?_); refine goesL_ (some 121) rfl rfl Try.func40 (by kernel_rfl) rfl #[.string t185, .int .u8 a1] rfl (by (try simp only [List.map_toArray, List.map_cons, List.map_nil]); first | done | rfl | (simp only [List.length_drop, List.length_take]; rfl)) ?_; (with_reducible refine (csv_Parse.calls t185 a1 t200 t201 t202 _ A45.out).mono ?_); rintro e w53 ⟨v203, rfl, ho0, hb⟩; refine ⟨_, rfl, ?_⟩; have n0_ := Aside0.mk (Kd.S_elder' (by (with_reducible repeat (first | apply Kd.S_alloc | apply Kd.S_drewN | apply Kd.S_drew)); exact HO_15.out) (Kd.S_base ho0) hb); have n1_ := Aside0.mk (Kd.S_lower (Kd.S_new' ho0 (Kd.S_lt (by (with_reducible repeat (first | apply Kd.S_alloc | apply Kd.S_drewN | apply Kd.S_drew)); exact HO_15.out))) (below_size (by repeat (first | (with_reducible first | exact HB.out | apply below_alloc | apply pw_below_drewN | apply below_drew1) | exact HB.out)))); have n2_ := Aside0.mk (below_step (by repeat (first | (with_reducible first | exact HB.out | apply below_alloc | apply pw_below_drewN | apply below_drew1) | exact HB.out)) hb); clear HO_15; clear HB; have HO_15 := n0_; have HO204 := n1_; have HB := n2_; clear n0_ n1_ n2_; (try clear hb); (try clear hb2); (try clear hk); (try clear hi); (try clear ho0); obtain ⟨Ao54, co54, eo54⟩ := Kd.S_slice HO_15.out; subst eo54) | ((with_reducible refine gate_callee (f := 42) rfl ?_); refine goesL_ (some 127) rfl rfl Try.func42 (by kernel_rfl) rfl #[.slice Ao54 t189.length co54, .slice (some ad187) l0.length c0] rfl (by (try simp only [List.map_toArray, List.map_cons, List.map_nil]); first | done | rfl | (simp only [List.length_drop, List.length_take]; rfl)) ?_; (with_reducible refine (tartanref03_Same.calls kj34 _ _ t189 _ _ l0 true _ ?side1 ?side2 ?side3 ?side4 A46.out).mono ?_); (case side1 => repeat (first | exact (Kd.S_reads' HO_15.out).2.2 | (with_reducible refine Kd.C_alloc ?_ _) | (with_reducible refine Kd.C_drewN ?_ _) | (with_reducible refine Kd.C_drew ?_))); (case side2 => exact (Kd.S_reads' HO_15.out).2.1); (case side3 => repeat (first | exact (Kd.C_below HR0.out HB.out) | (with_reducible refine Kd.C_alloc ?_ _) | (with_reducible refine Kd.C_drewN ?_ _) | (with_reducible refine Kd.C_drew ?_))); (case side4 => exact HC0.out); rintro e w' ⟨rfl, ⟨nd, rfl⟩⟩; refine ⟨_, rfl, ?_⟩; obtain ⟨Ao55, co55, eo55⟩ := Kd.S_slice HO204.out; subst eo55) | (go_at_call 42; (with_reducible refine (tartanref03_Same.calls kj34 _ _ t200 _ _ l0 t206 _ ?side1 ?side2 ?side3 ?side4 A48.out).mono ?_); (case side1 => repeat (first | exact (Kd.S_reads' HO204.out).2.2 | (with_reducible refine Kd.C_alloc ?_ _) | (with_reducible refine Kd.C_drewN ?_ _) | (with_reducible refine Kd.C_drew ?_))); (case side2 => exact (Kd.S_reads' HO204.out).2.1); (case side3 => repeat (first | exact (Kd.C_below HR0.out (by repeat (first | (with_reducible first | exact HB.out | apply below_alloc | apply pw_below_drewN | apply below_drew1) | exact HB.out))) | (with_reducible refine Kd.C_alloc ?_ _) | (with_reducible refine Kd.C_drewN ?_ _) | (with_reducible refine Kd.C_drew ?_))); (case side4 => exact HC0.out); rintro e w' ⟨rfl, ⟨nd, rfl⟩⟩))
                                            go_ret
                                            exact ⟨by first | rfl | (simp [errW_none, errW_some] <;> rfl) | (simp only [← hji18, ← hji22]; first | rfl | (simp [errW_none, errW_some] <;> rfl)) | (simp [*, errW_none, errW_some] <;> rfl), by repeat (first | (with_reducible first | exact HB.out | apply below_alloc | apply pw_below_drewN | apply below_drew1) | exact HB.out)⟩
                                        · replace c47 := Bool.eq_false_iff.mpr c47
                                          subst c47
                                          have H1 : (if true = true then (if t202 = 0 then (some false) else (some false)) else (some false)) = some r := by rw [if_neg (show ¬ (false = true) by decide)] at H; exact H
                                          clear H
                                          have H := H1
                                          clear H1
                                          have H1 : (if t202 = 0 then (some false) else (some false)) = some r := by first | (rw [if_pos rfl] at H; exact H) | (rw [if_pos trivial] at H; exact H) | (rw [if_neg not_false] at H; exact H) | simpa using H
                                          clear H
                                          have H := H1
                                          clear H1
                                          by_cases c56 : t202 = 0
                                          · rw [if_pos c56] at H
                                            have c56b0 : (t202 == 0) = true := beq_iff_eq.mpr c56
                                            have c56b1 : (t202 != 0) = false := bne_eq_false_iff_eq.mpr c56
                                            clear c56
                                            obtain rfl := Option.some.inj H
                                            go_wp2_with (first | ((with_reducible refine gate_callee (f := 40) rfl ?_); refine goesL_ (some 121) rfl rfl Try.func40 (by kernel_rfl) rfl #[.string t185, .int .u8 a1] rfl (by (try simp only [List.map_toArray, List.map_cons, List.map_nil]); first | done | rfl | (simp only [List.length_drop, List.length_take]; rfl)) ?_; (with_reducible refine (csv_Parse.calls t185 a1 t200 t201 t202 _ A45.out).mono ?_); rintro e w57 ⟨v203, rfl, ho0, hb⟩; refine ⟨_, rfl, ?_⟩; have n0_ := Aside0.mk (Kd.S_elder' (by (with_reducible repeat (first | apply Kd.S_alloc | apply Kd.S_drewN | apply Kd.S_drew)); exact HO_15.out) (Kd.S_base ho0) hb); have n1_ := Aside0.mk (Kd.S_lower (Kd.S_new' ho0 (Kd.S_lt (by (with_reducible repeat (first | apply Kd.S_alloc | apply Kd.S_drewN | apply Kd.S_drew)); exact HO_15.out))) (below_size (by repeat (first | (with_reducible first | exact HB.out | apply below_alloc | apply pw_below_drewN | apply below_drew1) | exact HB.out)))); have n2_ := Aside0.mk (below_step (by repeat (first | (with_reducible first | exact HB.out | apply below_alloc | apply pw_below_drewN | apply below_drew1) | exact HB.out)) hb); clear HO_15; clear HB; have HO_15 := n0_; have HO204 := n1_; have HB := n2_; clear n0_ n1_ n2_; (try clear hb); (try clear hb2); (try clear hk); (try clear hi); (try clear ho0); obtain ⟨Ao58, co58, eo58⟩ := Kd.S_slice HO_15.out; subst eo58) | ((with_reducible refine gate_callee (f := 42) rfl ?_); refine goesL_ (some 127) rfl rfl Try.func42 (by kernel_rfl) rfl #[.slice Ao58 t189.length co58, .slice (some ad187) l0.length c0] rfl (by (try simp only [List.map_toArray, List.map_cons, List.map_nil]); first | done | rfl | (simp only [List.length_drop, List.length_take]; rfl)) ?_; (with_reducible refine (tartanref03_Same.calls kj34 _ _ t189 _ _ l0 false _ ?side1 ?side2 ?side3 ?side4 A46.out).mono ?_); (case side1 => repeat (first | exact (Kd.S_reads' HO_15.out).2.2 | (with_reducible refine Kd.C_alloc ?_ _) | (with_reducible refine Kd.C_drewN ?_ _) | (with_reducible refine Kd.C_drew ?_))); (case side2 => exact (Kd.S_reads' HO_15.out).2.1); (case side3 => repeat (first | exact (Kd.C_below HR0.out HB.out) | (with_reducible refine Kd.C_alloc ?_ _) | (with_reducible refine Kd.C_drewN ?_ _) | (with_reducible refine Kd.C_drew ?_))); (case side4 => exact HC0.out); rintro e w' ⟨rfl, ⟨nd, rfl⟩⟩; refine ⟨_, rfl, ?_⟩))
                                            go_ret
                                            exact ⟨by first | rfl | (simp [errW_none, errW_some] <;> rfl) | (simp only [← hji18, ← hji22]; first | rfl | (simp [errW_none, errW_some] <;> rfl)) | (simp [*, errW_none, errW_some] <;> rfl), by repeat (first | (with_reducible first | exact HB.out | apply below_alloc | apply pw_below_drewN | apply below_drew1) | exact HB.out)⟩
                                          · rw [if_neg c56] at H
                                            have c56b0 : (t202 == 0) = false := beq_eq_false_iff_ne.mpr c56
                                            have c56b1 : (t202 != 0) = true := bne_iff_ne.mpr c56
                                            obtain rfl := Option.some.inj H
                                            go_wp2_with (first | ((with_reducible refine gate_callee (f := 40) rfl ?_); refine goesL_ (some 121) rfl rfl Try.func40 (by kernel_rfl) rfl #[.string t185, .int .u8 a1] rfl (by (try simp only [List.map_toArray, List.map_cons, List.map_nil]); first | done | rfl | (simp only [List.length_drop, List.length_take]; rfl)) ?_; (with_reducible refine (csv_Parse.calls t185 a1 t200 t201 t202 _ A45.out).mono ?_); rintro e w59 ⟨v203, rfl, ho0, hb⟩; refine ⟨_, rfl, ?_⟩; have n0_ := Aside0.mk (Kd.S_elder' (by (with_reducible repeat (first | apply Kd.S_alloc | apply Kd.S_drewN | apply Kd.S_drew)); exact HO_15.out) (Kd.S_base ho0) hb); have n1_ := Aside0.mk (Kd.S_lower (Kd.S_new' ho0 (Kd.S_lt (by (with_reducible repeat (first | apply Kd.S_alloc | apply Kd.S_drewN | apply Kd.S_drew)); exact HO_15.out))) (below_size (by repeat (first | (with_reducible first | exact HB.out | apply below_alloc | apply pw_below_drewN | apply below_drew1) | exact HB.out)))); have n2_ := Aside0.mk (below_step (by repeat (first | (with_reducible first | exact HB.out | apply below_alloc | apply pw_below_drewN | apply below_drew1) | exact HB.out)) hb); clear HO_15; clear HB; have HO_15 := n0_; have HO204 := n1_; have HB := n2_; clear n0_ n1_ n2_; (try clear hb); (try clear hb2); (try clear hk); (try clear hi); (try clear ho0); obtain ⟨Ao60, co60, eo60⟩ := Kd.S_slice HO_15.out; subst eo60) | ((with_reducible refine gate_callee (f := 42) rfl ?_); refine goesL_ (some 127) rfl rfl Try.func42 (by kernel_rfl) rfl #[.slice Ao60 t189.length co60, .slice (some ad187) l0.length c0] rfl (by (try simp only [List.map_toArray, List.map_cons, List.map_nil]); first | done | rfl | (simp only [List.length_drop, List.length_take]; rfl)) ?_; (with_reducible refine (tartanref03_Same.calls kj34 _ _ t189 _ _ l0 false _ ?side1 ?side2 ?side3 ?side4 A46.out).mono ?_); (case side1 => repeat (first | exact (Kd.S_reads' HO_15.out).2.2 | (with_reducible refine Kd.C_alloc ?_ _) | (with_reducible refine Kd.C_drewN ?_ _) | (with_reducible refine Kd.C_drew ?_))); (case side2 => exact (Kd.S_reads' HO_15.out).2.1); (case side3 => repeat (first | exact (Kd.C_below HR0.out HB.out) | (with_reducible refine Kd.C_alloc ?_ _) | (with_reducible refine Kd.C_drewN ?_ _) | (with_reducible refine Kd.C_drew ?_))); (case side4 => exact HC0.out); rintro e w' ⟨rfl, ⟨nd, rfl⟩⟩; refine ⟨_, rfl, ?_⟩))
                                            go_ret
                                            exact ⟨by first | rfl | (simp [errW_none, errW_some] <;> rfl) | (simp only [← hji18, ← hji22]; first | rfl | (simp [errW_none, errW_some] <;> rfl)) | (simp [*, errW_none, errW_some] <;> rfl), by repeat (first | (with_reducible first | exact HB.out | apply below_alloc | apply pw_below_drewN | apply below_drew1) | exact HB.out)⟩
                      · rw [if_neg c24] at H
                        exact absurd H (by simp)
                    · rw [if_neg c23] at H
                      exact absurd H (by simp)
                  · rw [if_neg c20] at H
                    exact absurd H (by simp)
                · rw [if_neg c19] at H
                  exact absurd H (by simp)
  · replace c5 := Bool.eq_false_iff.mpr c5
    subst c5
    have H1 : (some false) = some r := by rw [if_neg (show ¬ (false = true) by decide)] at H; exact H
    clear H
    have H := H1
    clear H1
    obtain rfl := Option.some.inj H
    go_enter Try.func15, Try.ntmps15
    go_wp2_with (first | ((with_reducible refine gate_callee (f := 39) rfl ?_); refine goesL_ (some 23) rfl rfl Try.func39 (by kernel_rfl) rfl #[] rfl (by (try simp only [List.map_toArray, List.map_cons, List.map_nil]); first | done | rfl | (simp only [List.length_drop, List.length_take]; rfl)) ?_; (with_reducible refine (tartanlaw03_works.calls  false _ A4.out).mono ?_); rintro e w61 ⟨rfl, hb⟩; refine ⟨_, rfl, ?_⟩; have n0_ := Aside0.mk (below_step (by repeat (first | (with_reducible first | exact HB.out | apply below_alloc | apply pw_below_drewN | apply below_drew1) | exact HB.out)) hb); clear HB; have HB := n0_; clear n0_; (try clear hb); (try clear hb2); (try clear hk); (try clear hi)))
    go_ret
    exact ⟨by first | rfl | (simp [errW_none, errW_some] <;> rfl) | (simp [*, errW_none, errW_some] <;> rfl), by repeat (first | (with_reducible first | exact HB.out | apply below_alloc | apply pw_below_drewN | apply below_drew1) | exact HB.out)⟩

end Go.Proofs.Ytggodagdfldndaa.Q.L.Z

/-! What csv.Print prints: the records as they are written, if all are such as csv takes. No program in sight. -/
namespace Go.Proofs.Ytggodagdfldndaa.Q.L
open Go.RowKit
theorem tooBig_false (r : List ByteArray) : tooBig r = false ↔ r.length ≤ 128 ∧ ∀ y ∈ r, y.size ≤ 4096 := by
  unfold tooBig
  rw [Bool.or_eq_false_iff, List.any_eq_false, decide_eq_false_iff_not]
  constructor
  · rintro ⟨h1, h2⟩
    refine ⟨by omega, fun y hy => ?_⟩
    have := h2 y hy
    unfold bigger at this
    simp only [decide_eq_true_eq] at this
    omega
  · rintro ⟨h1, h2⟩
    refine ⟨by omega, fun y hy => ?_⟩
    have := h2 y hy
    unfold bigger
    simp only [decide_eq_true_eq]
    omega
theorem printLoop_good (c : UInt8) (crlf : Bool) : ∀ (l : List (List ByteArray)) (e : Int) (acc : Bs), (∀ r ∈ l, RowOk r) → printLoop c crlf l e acc = (e, acc ++ recsR c.toNat c (l.map fun r => (r, crlf)))
  | [], e, acc, _ => by simp [printLoop, recsR]
  | r :: l, e, acc, h => by
    obtain ⟨h1, h2, h3⟩ := h r (by simp)
    rw [printLoop, if_neg (fun e => h1 (List.length_eq_zero_iff.1 e)), if_neg (by rw [(tooBig_false r).2 ⟨h2, h3⟩]; decide), printLoop_good c crlf l e _ (fun q hq => h q (List.mem_cons_of_mem _ hq))]
    rw [List.map_cons, recsR]
    simp [writeB, cells]
theorem printLoop_ok (c : UInt8) (crlf : Bool) : ∀ (l : List (List ByteArray)) (e : Int) (acc : Bs), (printLoop c crlf l e acc).1 = 0 → e = 0 ∧ ∀ r ∈ l, RowOk r
  | [], e, acc, h => ⟨h, by simp⟩
  | r :: l, e, acc, h => by
    rw [printLoop] at h
    split at h
    · cases h
    · rename_i h1
      split at h
      · have := (printLoop_ok c crlf l _ _ h).1
        cases this
      · rename_i h2
        obtain ⟨g1, g2⟩ := printLoop_ok c crlf l _ _ h
        refine ⟨g1, fun q hq => ?_⟩
        rcases List.mem_cons.1 hq with rfl | hq
        · obtain ⟨a1, a2⟩ := (tooBig_false q).1 (by simpa using h2)
          exact ⟨fun e => h1 (by rw [e]; rfl), a1, a2⟩
        · exact g2 q hq
/-- Records that are printed: their text. -/
def textR (d : Int) (crlf : Bool) (l : List (List ByteArray)) : Bs := recsR d (UInt8.ofNat d.toNat) (l.map fun r => (r, crlf))
theorem byteI {d : Int} (h : (Lit.int .u8 d).wf = true) : ((UInt8.ofNat d.toNat).toNat : Int) = d := by
  obtain ⟨c, rfl⟩ := delim_byte d h
  simp
theorem byteI0 {d : Int} (h : (Lit.int .u8 d).wf = true) : 0 ≤ d ∧ d ≤ 255 := by
  obtain ⟨c, rfl⟩ := delim_byte d h
  have := c.toNat_lt
  omega
theorem printF_ok (l : List (List ByteArray)) (d : Int) (crlf : Bool) (hd : (Lit.int .u8 d).wf = true) (s : ByteArray) (h : printF l d crlf = (s, 0)) : goodI d = true ∧ (∀ r ∈ l, RowOk r) ∧ l.length ≤ 2048 ∧ s = ofBs (textR d crlf l) := by
  have hb := byteI hd
  cases hg : goodI d with
  | false => unfold printF at h; rw [hg, if_neg (by decide)] at h; simp at h
  | true =>
    obtain ⟨⟨e, acc⟩, hp⟩ : ∃ p, printLoop (UInt8.ofNat d.toNat) crlf l (if 2048 < l.length then 7 else 0) [] = p := ⟨_, rfl⟩
    rw [print_post l d crlf e acc hg hp] at h
    by_cases h0 : e = 0
    · subst h0
      obtain ⟨g1, g2⟩ := printLoop_ok _ _ _ _ _ (by rw [hp])
      have hl : l.length ≤ 2048 := by
        by_cases e : 2048 < l.length
        · rw [if_pos e] at g1; cases g1
        · omega
      rw [printLoop_good _ _ _ _ _ g2, List.nil_append, hb] at hp
      rw [if_pos rfl] at h
      split at h
      · simp at h
      · refine ⟨rfl, g2, hl, ?_⟩
        rw [← (Prod.mk.inj h).1, ← (Prod.mk.inj hp).2]; rfl
    · rw [if_neg h0] at h
      exact absurd (Prod.mk.inj h).2 h0
theorem printF_bad (l : List (List ByteArray)) (d : Int) (crlf : Bool) (s : ByteArray) (e : Int) (h : printF l d crlf = (s, e)) (he : e ≠ 0) : s = ⟨#[]⟩ := by
  cases hg : goodI d with
  | false => unfold printF at h; rw [hg, if_neg (by decide)] at h; exact (Prod.mk.inj h).1.symm
  | true =>
    obtain ⟨⟨e2, acc⟩, hp⟩ : ∃ p, printLoop (UInt8.ofNat d.toNat) crlf l (if 2048 < l.length then 7 else 0) [] = p := ⟨_, rfl⟩
    rw [print_post l d crlf e2 acc hg hp] at h
    split at h
    · split at h
      · exact (Prod.mk.inj h).1.symm
      · exact absurd (Prod.mk.inj h).2.symm he
    · exact (Prod.mk.inj h).1.symm
theorem printF_good (l : List (List ByteArray)) (d : Int) (crlf : Bool) (hd : (Lit.int .u8 d).wf = true) (hg : goodI d = true) (hr : ∀ r ∈ l, RowOk r) (hl : l.length ≤ 2048) (hs : (textR d crlf l).length ≤ 4194304) : printF l d crlf = (ofBs (textR d crlf l), 0) := by
  have hb := byteI hd
  have hp := printLoop_good (UInt8.ofNat d.toNat) crlf l (if 2048 < l.length then 7 else 0) [] hr
  have e0 : (if 2048 < l.length then (7 : Int) else 0) = 0 := if_neg (by omega)
  rw [print_post l d crlf _ _ hg hp, if_pos e0, List.nil_append, hb, if_neg (by unfold textR at hs; omega)]
  rfl
theorem print_f (l : List (List ByteArray)) (d : Int) (crlf : Bool) (hd : (Lit.int .u8 d).wf = true) (hl : l.length ≤ 5000) : csv_Print.f l d crlf = some (printF l d crlf) := by
  obtain ⟨h1, h2⟩ := byteI0 hd
  unfold csv_Print.f
  rw [if_pos ⟨hl, h1, h2⟩]
/-- What is printed is parsed back. -/
theorem text_back (l : List (List ByteArray)) (d : Int) (crlf : Bool) (hd : (Lit.int .u8 d).wf = true) (hg : goodI d = true) (hr : ∀ r ∈ l, RowOk r) (hl : l.length ≤ 2048) : parseF (textR d crlf l) d = (l, 0, 0) := by
  have := parse_rows d (UInt8.ofNat d.toNat) (byteI hd) hg (l.map fun r => (r, crlf)) (by
    intro p hp
    obtain ⟨r, hr2, rfl⟩ := List.mem_map.1 hp
    exact hr r hr2) (by rw [List.length_map]; exact hl)
  unfold textR
  rw [this, List.map_map]
  rw [show (Prod.fst ∘ fun r => ((r, crlf) : List ByteArray × Bool)) = id from rfl, List.map_id]
end Go.Proofs.Ytggodagdfldndaa.Q.L

/-! What the printed Lean functions of chapter 3 come to, with enough rounds; the document's examples hold. -/
namespace Go.Proofs.Ytggodagdfldndaa.Q.L.Z
open Go.RowKit Go.Proofs.YtggodagdfldndaaW.PrintWords Go.Proofs.YtggodagdfldndaaW.PrintLast Go.Proofs.Ytggodagdfldndaa.Q.L Go.Proofs.Ytggodagdfldndaa.Q
theorem parse_f (s : ByteArray) (d : Int) (hs : s.size ≤ 1048576) : csv_Parse.f s d = some (parseF (toBs s) d) := by
  unfold csv_Parse.f; rw [if_pos hs]
theorem works03 : tartanlaw03_works.f = some true := by
  unfold tartanlaw03_works.f
  rw [parse_f _ _ (by decide), parse_f _ _ (by decide), parse_f _ _ (by decide), print_f _ _ _ (by decide) (by decide)]
  decide +kernel
theorem rd_nat (l : List (List ByteArray)) (i : Nat) (h : i < l.length) : rd_L1 l (i : Int) = l[i] := by
  unfold rd_L1
  simp [h]
/-! ### are records alike? -/
theorem row_l0 (a b : List ByteArray) (hl : a.length = b.length) (hb : a.length ≤ 1000000) : ∀ (m k i : Nat), i + m = a.length → m < k → a.take i = b.take i → tartanref03_Row.l0 k a b i = some (decide (a = b)) := by
  intro m
  induction m with
  | zero =>
    intro k i hi hk he
    obtain ⟨k, rfl⟩ : ∃ q, k = q + 1 := ⟨k - 1, by omega⟩
    simp only [tartanref03_Row.l0]
    rw [List.take_of_length_le (by omega), List.take_of_length_le (by omega)] at he
    rw [if_neg (by omega), he]; simp
  | succ m ih =>
    intro k i hi hk he
    obtain ⟨k, rfl⟩ : ∃ q, k = q + 1 := ⟨k - 1, by omega⟩
    have h1 : i < a.length := by omega
    have h2 : i < b.length := by omega
    simp only [tartanref03_Row.l0]
    rw [if_pos (by omega), if_pos (by omega), if_pos (by omega), rdOf_nat a i h1, rdOf_nat b i h2, toList_toBs, toList_toBs]
    by_cases e : a[i] = b[i]
    · rw [if_pos (by rw [e]), show wrap64 ((i : Int) + 1) = ((i + 1 : Nat) : Int) from wrap_nat i 1 (by omega)]
      refine ih k (i + 1) (by omega) (by omega) ?_
      rw [List.take_add_one, List.take_add_one, he, List.getElem?_eq_getElem h1, List.getElem?_eq_getElem h2, e]
    · rw [if_neg (fun h => e (by rw [← ofBs_toBs a[i], h, ofBs_toBs])), decide_eq_false (fun h => e (by subst h; rfl))]
theorem row_f (a b : List ByteArray) (hb : a.length ≤ 1000000) (k : Nat) (hk : a.length < k) : tartanref03_Row.f k a b = some (decide (a = b)) := by
  unfold tartanref03_Row.f
  by_cases h : a.length = b.length
  · rw [if_pos (by omega)]
    exact row_l0 a b h hb a.length k 0 (by omega) hk (by simp)
  · rw [if_neg (by omega), decide_eq_false (fun e => h (by rw [e]))]
theorem same_l0 (a b : List (List ByteArray)) (hl : a.length = b.length) (hb : a.length ≤ 1000000) (B : Nat) (hB : ∀ r ∈ a, r.length ≤ B) (hB2 : B ≤ 1000000) : ∀ (m k i : Nat), i + m = a.length → m + B + 1 < k → a.take i = b.take i → tartanref03_Same.l0 k a b i = some (decide (a = b)) := by
  intro m
  induction m with
  | zero =>
    intro k i hi hk he
    obtain ⟨k, rfl⟩ : ∃ q, k = q + 1 := ⟨k - 1, by omega⟩
    simp only [tartanref03_Same.l0]
    rw [List.take_of_length_le (by omega), List.take_of_length_le (by omega)] at he
    rw [if_neg (by omega), he]; simp
  | succ m ih =>
    intro k i hi hk he
    obtain ⟨k, rfl⟩ : ∃ q, k = q + 1 := ⟨k - 1, by omega⟩
    have h1 : i < a.length := by omega
    have h2 : i < b.length := by omega
    have h3 := hB a[i] (List.getElem_mem h1)
    simp only [tartanref03_Same.l0]
    rw [if_pos (by omega), if_pos (by omega), if_pos (by omega), rd_nat a i h1, rd_nat b i h2, row_f _ _ (by omega) k (by omega), Option.bind_some]
    by_cases e : a[i] = b[i]
    · rw [if_pos (decide_eq_true e), show wrap64 ((i : Int) + 1) = ((i + 1 : Nat) : Int) from wrap_nat i 1 (by omega)]
      refine ih k (i + 1) (by omega) (by omega) ?_
      rw [List.take_add_one, List.take_add_one, he, List.getElem?_eq_getElem h1, List.getElem?_eq_getElem h2, e]
    · rw [if_neg (by rw [decide_eq_false e]; decide), decide_eq_false (fun h => e (by subst h; rfl))]
theorem same_f (a b : List (List ByteArray)) (hb : a.length ≤ 1000000) (B : Nat) (hB : ∀ r ∈ a, r.length ≤ B) (hB2 : B ≤ 1000000) (k : Nat) (hk : a.length + B + 1 < k) : tartanref03_Same.f k a b = some (decide (a = b)) := by
  unfold tartanref03_Same.f
  by_cases h : a.length = b.length
  · rw [if_pos (by omega)]
    exact same_l0 a b h hb B hB hB2 a.length k 0 (by omega) hk (by simp)
  · rw [if_neg (by omega), decide_eq_false (fun e => h (by rw [e]))]
/-! ### are they few? -/
/-- How many bytes cells count for. -/
def weigh : List ByteArray → Nat
  | [] => 0
  | x :: r => x.size + 1 + weigh r
def weighL : List (List ByteArray) → Nat
  | [] => 0
  | r :: l => weigh r + weighL l
/-- So few that they are looked at. -/
def FewP (l : List (List ByteArray)) : Prop := l.length ≤ 60 ∧ (∀ r ∈ l, r.length ≤ 60) ∧ weighL l ≤ 8000
def Sized (l : List (List ByteArray)) : Prop := ∀ r ∈ l, ∀ x ∈ r, x.size ≤ 140737488351232
theorem weigh_take (r : List ByteArray) (j : Nat) (h : j < r.length) : weigh (r.take (j + 1)) = weigh (r.take j) + (r[j].size + 1) := by
  induction r generalizing j with
  | nil => cases h
  | cons x r ih =>
    cases j with
    | zero => simp [weigh]
    | succ j =>
      have := ih j (by simpa using h)
      simp only [List.take_succ_cons, weigh, List.getElem_cons_succ, this]
      omega
theorem weighL_take (l : List (List ByteArray)) (i : Nat) (h : i < l.length) : weighL (l.take (i + 1)) = weighL (l.take i) + weigh l[i] := by
  induction l generalizing i with
  | nil => cases h
  | cons x r ih =>
    cases i with
    | zero => simp [weighL]
    | succ i =>
      have := ih i (by simpa using h)
      simp only [List.take_succ_cons, weighL, List.getElem_cons_succ, this]
      omega
theorem few_step (n s : Nat) (hn : n ≤ 8000) (hs : s ≤ 140737488351232) : wrap64 (wrap64 ((n : Int) + (s : Int)) + 1) = ((n + s + 1 : Nat) : Int) := by
  unfold wrap64; omega
/-- Few's two loops: true only if all that follows is few. -/
theorem few_loops (l : List (List ByteArray)) (hl : l.length ≤ 60) (hs : Sized l) : ∀ (m : Nat),
    (∀ (k i n : Nat), i + m = l.length → m * 62 + 1 < k → n = weighL (l.take i) → n ≤ 8000 → (∀ r ∈ l.take i, r.length ≤ 60) → ∃ b, tartanref03_Few.l0 k l (n : Int) (i : Int) = some b ∧ (b = true → FewP l)) := by
  intro m
  induction m with
  | zero =>
    intro k i n hi hk hn hn2 hr
    obtain ⟨k, rfl⟩ : ∃ q, k = q + 1 := ⟨k - 1, by omega⟩
    refine ⟨true, ?_, fun _ => ?_⟩
    · simp only [tartanref03_Few.l0]
      rw [if_neg (by omega)]
    · rw [List.take_of_length_le (by omega)] at hn hr
      exact ⟨hl, hr, by omega⟩
  | succ m ih =>
    intro k i n hi hk hn hn2 hr
    obtain ⟨k, rfl⟩ : ∃ q, k = q + 1 := ⟨k - 1, by omega⟩
    have h1 : i < l.length := by omega
    simp only [tartanref03_Few.l0]
    rw [if_pos (by omega), if_pos (by omega), rd_nat l i h1]
    by_cases h60 : (l[i].length : Int) > 60
    · exact ⟨false, by rw [if_pos h60], fun h => by cases h⟩
    · rw [if_neg h60]
      have inner : ∀ (m2 k2 j n2 : Nat), j + m2 = l[i].length → m * 62 + m2 + 2 < k2 → n2 = weighL (l.take i) + weigh (l[i].take j) → n2 ≤ 8000 → ∃ b, tartanref03_Few.l1 k2 l (n2 : Int) (i : Int) (j : Int) = some b ∧ (b = true → FewP l) := by
        intro m2
        induction m2 with
        | zero =>
          intro k2 j n2 hj hk2 hn3 hn4
          obtain ⟨k2, rfl⟩ : ∃ q, k2 = q + 1 := ⟨k2 - 1, by omega⟩
          simp only [tartanref03_Few.l1]
          rw [if_pos (by omega), if_pos (by omega), rd_nat l i h1, if_neg (by omega), show wrap64 ((i : Int) + 1) = ((i + 1 : Nat) : Int) from wrap_nat i 1 (by omega)]
          refine ih k2 (i + 1) n2 (by omega) (by omega) ?_ hn4 ?_
          · rw [weighL_take l i h1, hn3, show l[i].take j = l[i] from List.take_of_length_le (by omega)]
          · intro r hr2
            rw [List.take_add_one, List.getElem?_eq_getElem h1] at hr2
            simp only [Option.toList_some, List.mem_append, List.mem_singleton] at hr2
            rcases hr2 with hr2 | rfl
            · exact hr r hr2
            · omega
        | succ m2 ih2 =>
          intro k2 j n2 hj hk2 hn3 hn4
          obtain ⟨k2, rfl⟩ : ∃ q, k2 = q + 1 := ⟨k2 - 1, by omega⟩
          have h2 : j < l[i].length := by omega
          have hsz := hs l[i] (List.getElem_mem h1) l[i][j] (List.getElem_mem h2)
          simp only [tartanref03_Few.l1]
          rw [if_pos (by omega), if_pos (by omega), rd_nat l i h1, if_pos (by omega), if_pos (by omega), rdOf_nat _ j h2]
          rw [few_step n2 l[i][j].size hn4 hsz]
          by_cases h8 : ((n2 + l[i][j].size + 1 : Nat) : Int) > 8000
          · exact ⟨false, by rw [if_pos h8], fun h => by cases h⟩
          · rw [if_neg h8, show wrap64 ((j : Int) + 1) = ((j + 1 : Nat) : Int) from wrap_nat j 1 (by omega)]
            exact ih2 k2 (j + 1) _ (by omega) (by omega) (by rw [weigh_take _ j h2, hn3]; omega) (by omega)
      exact inner l[i].length k 0 n (by omega) (by omega) (by rw [hn]; simp [weigh]) hn2
theorem few_f (l : List (List ByteArray)) (hs : Sized l) (k : Nat) (hk : 4000 < k) : ∃ b, tartanref03_Few.f k l = some b ∧ (b = true → FewP l) := by
  unfold tartanref03_Few.f
  by_cases h : (l.length : Int) > 60
  · exact ⟨false, by rw [if_pos h], fun h => by cases h⟩
  · rw [if_neg h]
    exact few_loops l (by omega) hs l.length k 0 0 (by omega) (by omega) rfl (by omega) (by simp)
end Go.Proofs.Ytggodagdfldndaa.Q.L.Z

/-! Few records have short texts. No program in sight. -/
namespace Go.Proofs.Ytggodagdfldndaa.Q.L.Z
open Go.RowKit Go.Proofs.Ytggodagdfldndaa.Q.L
theorem costR_weigh (d : Int) : ∀ r : List ByteArray, costR d r ≤ 3 * weigh r
  | [] => Nat.le_refl _
  | x :: r => by
    have h1 := costR_weigh d r
    have h2 := put_length (toBs x) d
    rw [size_toBs] at h2
    simp only [costR, weigh]
    omega
theorem costL_weigh (d : Int) : ∀ l : List (List ByteArray), costL d l ≤ 3 * weighL l
  | [] => Nat.le_refl _
  | r :: l => by
    have h1 := costL_weigh d l
    have h2 := costR_weigh d r
    simp only [costL, weighL]
    omega
theorem textR_length (d : Int) (crlf : Bool) (l : List (List ByteArray)) (hr : ∀ r ∈ l, RowOk r) : (textR d crlf l).length = costL d l + (if crlf = true then l.length else 0) := recsR_cost d _ crlf l hr
theorem few_text (d : Int) (crlf : Bool) (l : List (List ByteArray)) (hf : FewP l) (hr : ∀ r ∈ l, RowOk r) : (textR d crlf l).length ≤ 24060 := by
  have h1 := textR_length d crlf l hr
  have h2 := costL_weigh d l
  obtain ⟨h3, _, h4⟩ := hf
  rw [h1]
  split <;> omega
end Go.Proofs.Ytggodagdfldndaa.Q.L.Z

/-! Which break ends a record makes no difference, nor whether one stands behind the last one, if that is no single empty cell: for every input the law answers true. Conditions: none. -/
namespace Go.Proofs.Ytggodagdfldndaa.Pure
open Go.RowKit Go.Proofs.Ytggodagdfldndaa.Q Go.Proofs.Ytggodagdfldndaa.Q.L Go.Proofs.Ytggodagdfldndaa.Q.L.Z Go.Proofs.YtggodagdfldndaaW.PrintWords Go.Proofs.YtggodagdfldndaaW.PrintLast

theorem printLoop_err (c : UInt8) (x y : Bool) : ∀ (l : List (List ByteArray)) (e : Int) (acc acc2 : Bs), (printLoop c x l e acc).1 = (printLoop c y l e acc2).1
  | [], _, _, _ => rfl
  | r :: l, e, acc, acc2 => by
    rw [printLoop, printLoop]
    split
    · rfl
    · split
      · exact printLoop_err c x y l _ _ _
      · exact printLoop_err c x y l _ _ _
theorem print_err (l : List (List ByteArray)) (d : Int) (x y : Bool) (hd : (Lit.int .u8 d).wf = true) (hf : FewP l) : (printF l d x).2 = (printF l d y).2 := by
  cases hg : goodI d with
  | false => unfold printF; rw [hg, if_neg (by decide), if_neg (by decide)]
  | true =>
    obtain ⟨⟨e, a⟩, hp⟩ : ∃ p, printLoop (UInt8.ofNat d.toNat) x l (if 2048 < l.length then 7 else 0) [] = p := ⟨_, rfl⟩
    obtain ⟨⟨f, b⟩, hq⟩ : ∃ p, printLoop (UInt8.ofNat d.toNat) y l (if 2048 < l.length then 7 else 0) [] = p := ⟨_, rfl⟩
    have hef := printLoop_err (UInt8.ofNat d.toNat) x y l (if 2048 < l.length then 7 else 0) [] []
    rw [hp, hq] at hef
    dsimp only at hef
    subst hef
    by_cases h0 : e = 0
    · subst h0
      obtain ⟨_, hr⟩ := printLoop_ok _ _ _ _ _ (by rw [hp])
      have hl := hf.1
      rw [printF_good l d x hd hg hr (by omega) (by have := few_text d x l hf hr; omega), printF_good l d y hd hg hr (by omega) (by have := few_text d y l hf hr; omega)]
    · rw [print_post l d x e a hg hp, print_post l d y e b hg hq, if_neg h0, if_neg h0]
theorem brk_last (l : Bs) (x : Bool) : (l ++ brk x).drop ((l ++ brk x).length - 1) = [10] := by
  cases x with
  | true =>
    rw [show brk true = [13, 10] from rfl, List.length_append, show l.length + [(13 : UInt8), 10].length - 1 = l.length + 1 from rfl, ← List.drop_drop, List.drop_left]; rfl
  | false =>
    rw [show brk false = [10] from rfl, List.length_append, show l.length + [(10 : UInt8)].length - 1 = l.length from rfl, List.drop_left]
theorem text_last (d : Int) (x : Bool) (init : List (List ByteArray)) (last : List ByteArray) : textR d x (init ++ [last]) = (textR d x init ++ rowR d (UInt8.ofNat d.toNat) (last.map toBs)) ++ brk x := by
  unfold textR
  rw [List.map_append, recsR_append]
  simp [recsR]
/-- The text without its last break. -/
theorem short_parse (d : Int) (x : Bool) (init : List (List ByteArray)) (last : List ByteArray) (hd : (Lit.int .u8 d).wf = true) (hg : goodI d = true) (hr : ∀ r ∈ init ++ [last], RowOk r) (hl : (init ++ [last]).length ≤ 2048) :
    parseF (textR d x init ++ rowR d (UInt8.ofNat d.toNat) (last.map toBs)) d = (if last = [ByteArray.empty] then init else init ++ [last], 0, 0) := by
  have hri : ∀ r ∈ init, RowOk r := fun r h => hr r (List.mem_append_left _ h)
  have hrl : RowOk last := hr last (by simp)
  rw [List.length_append, List.length_singleton] at hl
  by_cases h : last = [ByteArray.empty]
  · rw [if_pos h, h]
    have e : rowR d (UInt8.ofNat d.toNat) ([ByteArray.empty].map toBs) = [] := by
      rw [List.map_cons, List.map_nil, rowR_one]; rfl
    rw [e, List.append_nil, text_back init d x hd hg hri (by omega)]
  · rw [if_neg h]
    have := parse_last d (UInt8.ofNat d.toNat) (byteI hd) hg (init.map fun r => (r, x)) last (by
      intro p hp
      obtain ⟨r, hr2, rfl⟩ := List.mem_map.1 hp
      exact hri r hr2) hrl h (by simpa using hl)
    unfold textR
    rw [this, List.map_map, show (Prod.fst ∘ fun r => ((r, x) : List ByteArray × Bool)) = id from rfl, List.map_id]
theorem CsvBreaks (l : List (List ByteArray)) (d : Int) (x : Bool) (hz : Sized l) (hd : (Lit.int .u8 d).wf = true) : ∃ k, tartanlaw03_CsvBreaks.f k l d x = some true := by
  refine ⟨5010, ?_⟩
  unfold tartanlaw03_CsvBreaks.f
  obtain ⟨p, hp, hfa⟩ := few_f l hz 5010 (by omega)
  rw [works03, Option.bind_some, if_pos rfl, hp, Option.bind_some]
  have hno : tartanlaw03_CsvBreaks.j0 5010 l d x true true = some true := by
    rw [tartanlaw03_CsvBreaks.j0, if_pos rfl]
  cases p with
  | false => rw [if_neg (by decide)]; exact hno
  | true =>
    have hf := hfa rfl
    have la := hf.1
    rw [if_pos rfl]
    by_cases h0 : l = []
    · subst h0; exact hno
    · have hlen : 0 < l.length := List.length_pos_iff.2 h0
      rw [show ((l.length : Int) == 0) = false from beq_eq_false_iff_ne.2 (by omega), tartanlaw03_CsvBreaks.j0, if_neg (by decide), print_f l d x hd (by omega), Option.bind_some, print_f l d (!x) hd (by omega), Option.bind_some]
      have herr := print_err l d x (!x) hd hf
      obtain ⟨⟨s, e⟩, hpa⟩ : ∃ q, printF l d x = q := ⟨_, rfl⟩
      obtain ⟨⟨t, f⟩, hpb⟩ : ∃ q, printF l d (!x) = q := ⟨_, rfl⟩
      rw [hpa, hpb] at herr
      dsimp only at herr
      subst herr
      rw [hpa, hpb]
      dsimp only
      by_cases he : e = 0
      · subst he
        obtain ⟨hg, hr, hl, rfl⟩ := printF_ok l d x hd s hpa
        obtain ⟨_, _, _, rfl⟩ := printF_ok l d (!x) hd t hpb
        have h1 := few_text d x l hf hr
        have h2 := few_text d (!x) l hf hr
        obtain ⟨init, last, rfl⟩ : ∃ i z, l = i ++ [z] := ⟨l.dropLast, l.getLast h0, (List.dropLast_concat_getLast h0).symm⟩
        have hsp := short_parse d x init last hd hg hr hl
        have htl := text_last d x init last
        obtain ⟨T, hT⟩ : ∃ T, T = textR d x init ++ rowR d (UInt8.ofNat d.toNat) (last.map toBs) := ⟨_, rfl⟩
        rw [← hT] at hsp htl
        rw [htl] at h1 ⊢
        have eN : (init ++ [last]).length = init.length + 1 := by simp
        have eI : wrap64 (((init ++ [last]).length : Int) - 1) = (init.length : Int) := by rw [eN]; unfold wrap64; omega
        have eS : (ofBs (T ++ brk x)).size = T.length + (brk x).length := by rw [size_ofBs, List.length_append]
        have hbx : (brk x).length = (if x = true then 2 else 1) := by cases x <;> rfl
        rw [List.length_append] at h1
        have eX : ((ofBs (T ++ brk x)).size : Int) = ((T.length + (brk x).length : Nat) : Int) := by rw [eS]
        have hbp : 1 ≤ (brk x).length ∧ (brk x).length ≤ 2 := by rw [hbx]; split <;> omega
        have eL : wrap64 (((T.length + (brk x).length : Nat) : Int) - 1) = ((T.length + (brk x).length - 1 : Nat) : Int) := by unfold wrap64; omega
        have eB : lex_Break.f 5008 (ofBs (T ++ brk x)) (((T.length + (brk x).length - 1 : Nat)) : Int) = some 1 := by
          rw [lex_Break_f]
          have h9 := brk_last T x
          rw [List.length_append] at h9
          unfold breakAt
          rw [toBs_ofBs, if_neg (by rw [List.length_append]; omega), Int.toNat_natCast, h9]
          rfl
        have eW : ∀ n : Nat, n ≤ T.length + (brk x).length → n ≤ 2 → wrap64 (((T.length + (brk x).length : Nat) : Int) - (n : Int)) = ((T.length + (brk x).length - n : Nat) : Int) := by
          intro n h3 h4
          unfold wrap64; omega
        have eE : (ofBs (T ++ brk x)).extract 0 (T.length : Int).toNat = ofBs T := by
          refine eq_ofBs ?_
          rw [toBs_extract, toBs_ofBs, Int.toNat_natCast, List.drop_zero, List.take_left]
        have eP : csv_Parse.f (ofBs T) d = some (if last = [ByteArray.empty] then init else init ++ [last], 0, 0) := by
          rw [parse_f _ _ (by rw [size_ofBs]; omega), toBs_ofBs, hsp]
        have eR : rd_L1 (init ++ [last]) (init.length : Int) = last := by
          rw [rd_nat _ _ (by rw [eN]; omega)]; simp
        have hrl : RowOk last := hr last (by simp)
        have hmain : ∀ k, 4990 < k → tartanlaw03_CsvBreaks.j2 k (init ++ [last]) d true (ofBs (textR d (!x) (init ++ [last]))) last (ofBs T) = some true := by
          intro k hk
          obtain ⟨k, rfl⟩ : ∃ q, k = q + 3 := ⟨k - 3, by omega⟩
          rw [tartanlaw03_CsvBreaks.j2, eP, Option.bind_some]
          dsimp only
          rw [if_pos rfl, show ((0 : Int) != 0) = false from rfl, tartanlaw03_CsvBreaks.j3, if_neg (by decide)]
          have hS : ∀ m : List (List ByteArray), (∀ r ∈ m, r.length ≤ 128) → m.length ≤ 60 → ∀ m2, tartanref03_Same.f k m m2 = some (decide (m = m2)) := fun m h1 h2 m2 => same_f m m2 (by omega) 128 h1 (by omega) k (by omega)
          have h128 : ∀ r ∈ init ++ [last], r.length ≤ 128 := fun r h => (hr r h).2.1
          have hfin : tartanlaw03_CsvBreaks.j4 (k + 1) (init ++ [last]) d true (ofBs (textR d (!x) (init ++ [last]))) (init ++ [last]) false = some true := by
            rw [tartanlaw03_CsvBreaks.j4, if_neg (by decide), parse_f _ _ (by rw [size_ofBs]; omega), Option.bind_some, toBs_ofBs, text_back _ d (!x) hd hg hr hl, hS _ h128 (by omega), Option.bind_some, if_pos (decide_eq_true rfl), Option.bind_some]
            rw [if_pos rfl, if_pos rfl, decide_eq_true rfl]
          by_cases hlast : last = [ByteArray.empty]
          · rw [if_pos hlast, hlast, if_pos (by decide), if_pos (by decide)]
            rw [show ((rdOf ByteArray.empty [ByteArray.empty] 0).toList == ([] : List UInt8)) = true from by
              rw [show rdOf ByteArray.empty [ByteArray.empty] 0 = ofBs [] from rfl, toList_ofBs]; rfl]
            rw [← hlast, tartanlaw03_CsvBreaks.j4, if_pos rfl, eI, if_pos (by omega), if_pos (by omega), Int.toNat_natCast, List.take_left, hS init (fun r h => h128 r (List.mem_append_left _ h)) (by omega), Option.bind_some, if_pos rfl, decide_eq_true rfl]
          · rw [if_neg hlast]
            by_cases h1l : (last.length : Int) = 1
            · rw [if_pos h1l, if_pos (by omega)]
              obtain ⟨y, rfl⟩ : ∃ y, last = [y] := List.length_eq_one_iff.1 (by omega)
              rw [show ((rdOf ByteArray.empty [y] 0).toList == ([] : List UInt8)) = false from by
                rw [show rdOf ByteArray.empty [y] 0 = y from rfl, toList_toBs]
                refine beq_eq_false_iff_ne.2 (fun e => hlast ?_)
                rw [← ofBs_toBs y, e]; rfl]
              exact hfin
            · rw [if_neg h1l]
              exact hfin
        rw [if_pos rfl, show ((0 : Int) != 0) = false from rfl, tartanlaw03_CsvBreaks.j1, if_neg (by decide), eI, if_pos (by omega), if_pos (by rw [eN]; omega), eX, eL, eB, Option.bind_some]
        rw [show ((T.length + (brk x).length : Nat) : Int) - 1 = ((T.length + (brk x).length : Nat) : Int) - ((1 : Nat) : Int) from rfl, show ((T.length + (brk x).length : Nat) : Int) - 2 = ((T.length + (brk x).length : Nat) : Int) - ((2 : Nat) : Int) from rfl, eR]
        rw [eW 1 (by omega) (by omega), if_pos (by omega), if_pos (by omega)]
        cases x with
        | true =>
          rw [if_pos rfl, eW 2 (by rw [hbx, if_pos rfl]; omega) (by omega), if_pos (by omega), if_pos (by omega)]
          have e2 : T.length + (brk true).length - 2 = T.length := by show T.length + 2 - 2 = _; omega
          rw [e2, eE]
          exact hmain _ (by omega)
        | false =>
          rw [if_neg (by decide)]
          have e2 : T.length + (brk false).length - 1 = T.length := by show T.length + 1 - 1 = _; omega
          rw [e2, eE]
          exact hmain _ (by omega)
      · rw [if_neg he, tartanlaw03_CsvBreaks.j1, if_pos rfl, if_pos rfl]
        simp

end Go.Proofs.Ytggodagdfldndaa.Pure

namespace Go.Proofs.Ytggodagdfldndaa
open Go.ChangeShapes Go.WideShapes Go.ChangeAt Go.RowKit Go.Proofs.YtggodagdfldndaaW.PrintWords
theorem laidOut : laidOutB Try.prog = true := by kernel_rfl
theorem underlying38 : Try.prog.underlying 38 = some (.slice 9) := by kernel_rfl
theorem under9 : Try.prog.underlying 9 = some .string := by kernel_rfl
theorem cells9 : Try.prog.cellsOf 9 = 1 := by kernel_rfl
theorem open_strl {H : Type} {enc : TypeId × Value → H} {W : World} {base : Nat} {v0 : Value} {d0 : DataW H} {p0 : List MemPlace} (hv : Value.okWide Try.prog W .any base 38 v0)
    (h : DataW.Trod enc Try.prog W 0 (fun _ => true) true 38 v0 d0 p0) :
    ∃ (A : Option Addr) (l : List ByteArray) (cap : Nat), v0 = .slice A l.length cap ∧ l.length ≤ cap ∧ Kd.C Kd.string W A l.length l := by
  obtain ⟨a0, len, cap, rfl⟩ := okWide_slice underlying38 hv
  obtain ⟨fuel, hf⟩ := h
  rcases open_strings underlying38 under9 cells9 hf with ⟨hcs, hx⟩ | ⟨a, len', cap', ss, hcs, _, hl, hm, hz, hx, hcell, hsz⟩
  · simp [Value.cells] at hcs
    obtain ⟨rfl, rfl, rfl⟩ := hcs
    exact ⟨none, [], 0, rfl, Nat.le_refl _, Kd.C_of_reads (d := ByteArray.empty) ⟨rfl, Nat.zero_le _, fun h => by cases h⟩⟩
  · simp [Value.cells] at hcs
    obtain ⟨rfl, rfl, rfl⟩ := hcs
    have hz' : cap = ss.length ∨ len = ss.length := by
      split at hz
      · exact Or.inl hz.symm
      · exact Or.inr hz.symm
    have e : (ss.take len).length = len := by rw [List.length_take]; omega
    refine ⟨some a, ss.take len, cap, by rw [e], by rw [e]; exact hl, ?_⟩
    rw [e]
    refine Kd.C_of_reads (d := ByteArray.empty) ⟨e, ?_, fun _ => ⟨a, rfl, fun j hj => ?_⟩⟩
    · have : maxLen ≤ 9223372036854775807 := by decide
      have h9 := Nat.le_trans hm this
      clear this hm
      exact Nat.le_trans hl h9
    · rw [hcell j (by omega)]
      have h3 : (ss.take len).getD j ByteArray.empty = ss.getD j ByteArray.empty := by
        rw [List.getD_eq_getElem?_getD, List.getD_eq_getElem?_getD, List.getElem?_take_of_lt hj]
      rw [h3]
/-- It is read again as before, where nothing of it was written. -/
theorem again_strl {H : Type} {enc : TypeId × Value → H} {W W' : World} {v0 : Value} {d0 : DataW H} {p0 : List MemPlace} (h : DataW.Trod enc Try.prog W 0 (fun _ => true) true 38 v0 d0 p0)
    (hb : Below W.heap.size W W') (hlt : ∀ x ∈ p0, x.block < W.heap.size) : DataW.Trod enc Try.prog W' 0 (fun b => decide (b < W.heap.size)) true 38 v0 d0 p0 :=
  Below.trod laidOut (by kernel_rfl) (of_decide_eq_true (by kernel_rfl)) h hb hlt
end Go.Proofs.Ytggodagdfldndaa
