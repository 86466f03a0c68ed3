/- Walks of Go functions of this seat against plain Lean functions, written by a program of this session (the kit's print, with hand-proved contracts for what it does not take). Lean checks them. -/
import Derived.Test.YtggodagdfldndaaQ0
import Derived.Test.YtggodagdfldndaaQ1
namespace Go.Proofs.Ytggodagdfldndaa.Q
open Go.RowKit Go.Proofs.YtggodagdfldndaaW.PrintWords Go.Proofs.YtggodagdfldndaaW.PrintLast Go.Proofs.YtggodagdfldndaaW.PrintMore
attribute [local go_sem] max2_int min2_int max_two min_two max_three min_three max_four min_four   -- for this text's walks alone
set_option linter.unusedVariables false
set_option linter.unusedSimpArgs false

/-! ### tartanlaw01_QuoteSizes: function 8 -/
mutual
def tartanlaw01_QuoteSizes.j0 : Nat → ByteArray → ByteArray → Int → Bool → Bool → Option (Bool)
  | 0, _, _, _, _, _ => none
  | k + 1, x0, x1, x2, x7, x22 => if x22 = true then (some x7) else ((quote_Quoted.f x0).bind fun t167 => ((quote_Quoted.f x1).bind fun t168 => (if x0.size + x1.size ≤ 9223372036854775807 then ((quote_Quoted.f (x0 ++ x1)).bind fun t169 => (if (wrap64 ((t167.size : Int) + (t168.size : Int))) = (wrap64 ((t169.size : Int) + 2)) then ((quote_Plain.f k x0 x2).bind fun t170 => (if t170 = true then ((quote_Plain.f k x1 x2).bind fun t171 => (tartanlaw01_QuoteSizes.j1 k x0 x1 x2 x7 t171)) else (tartanlaw01_QuoteSizes.j1 k x0 x1 x2 x7 false))) else (some false))) else (none))))
def tartanlaw01_QuoteSizes.j1 : Nat → ByteArray → ByteArray → Int → Bool → Bool → Option (Bool)
  | 0, _, _, _, _, _ => none
  | k + 1, x0, x1, x2, x7, x11 => if x0.size + x1.size ≤ 9223372036854775807 then ((quote_Plain.f k (x0 ++ x1) x2).bind fun t172 => (if (t172 != x11) = true then (some false) else (if x7 = true then ((quote_Size.f k x0 x2).bind fun t173 => ((quote_Plain.f k x0 x2).bind fun t174 => (some ((t173 == (x0.size : Int)) == t174)))) else (some false)))) else (none)
end
def tartanlaw01_QuoteSizes.f (k : Nat) (a0 : ByteArray) (a1 : ByteArray) (a2 : Int) : Option (Bool) := (tartanlaw01_works.f k).bind fun t166 => (if t166 = true then (if (a0.size : Int) > 2000 then (tartanlaw01_QuoteSizes.j0 k a0 a1 a2 t166 true) else (tartanlaw01_QuoteSizes.j0 k a0 a1 a2 t166 (decide ((a1.size : Int) > 2000)))) else (some false))
theorem tartanlaw01_QuoteSizes.mono_l : ∀ k, (∀ y0 y1 y2 y3 y4, LeO (tartanlaw01_QuoteSizes.j0 k y0 y1 y2 y3 y4) (tartanlaw01_QuoteSizes.j0 (k + 1) y0 y1 y2 y3 y4)) ∧ (∀ y0 y1 y2 y3 y4, LeO (tartanlaw01_QuoteSizes.j1 k y0 y1 y2 y3 y4) (tartanlaw01_QuoteSizes.j1 (k + 1) y0 y1 y2 y3 y4))
  | 0 => ⟨fun _ _ _ _ _ r h => by simp [tartanlaw01_QuoteSizes.j0] at h, fun _ _ _ _ _ r h => by simp [tartanlaw01_QuoteSizes.j1] at h⟩
  | k + 1 => by
    obtain ⟨ih0, ih1⟩ := tartanlaw01_QuoteSizes.mono_l k
    refine ⟨?_, ?_⟩
    · intro y0 y1 y2 y3 y4
      unfold tartanlaw01_QuoteSizes.j0
      repeat' first
      | (with_reducible exact ih0 _ _ _ _ _)
      | (with_reducible exact ih1 _ _ _ _ _)
      | (with_reducible exact quote_Plain.mono _ _ _)
      | (with_reducible exact quote_Size.mono _ _ _)
      | (with_reducible exact tartanlaw01_works.mono _)
      | (with_reducible exact LeO.refl _)
      | (with_reducible exact LeO.none _)
      | (with_reducible refine LeO.ite ?_ ?_)
      | (with_reducible refine LeO.bind ?_ (fun _ => ?_))
      | exact ih0 _ _ _ _ _
      | exact ih1 _ _ _ _ _
      | exact quote_Plain.mono _ _ _
      | exact quote_Size.mono _ _ _
      | exact tartanlaw01_works.mono _
      | exact LeO.none _
      | refine LeO.ite ?_ ?_
      | refine LeO.bind ?_ (fun _ => ?_)
    · intro y0 y1 y2 y3 y4
      unfold tartanlaw01_QuoteSizes.j1
      repeat' first
      | (with_reducible exact ih0 _ _ _ _ _)
      | (with_reducible exact ih1 _ _ _ _ _)
      | (with_reducible exact quote_Plain.mono _ _ _)
      | (with_reducible exact quote_Size.mono _ _ _)
      | (with_reducible exact tartanlaw01_works.mono _)
      | (with_reducible exact LeO.refl _)
      | (with_reducible exact LeO.none _)
      | (with_reducible refine LeO.ite ?_ ?_)
      | (with_reducible refine LeO.bind ?_ (fun _ => ?_))
      | exact ih0 _ _ _ _ _
      | exact ih1 _ _ _ _ _
      | exact quote_Plain.mono _ _ _
      | exact quote_Size.mono _ _ _
      | exact tartanlaw01_works.mono _
      | exact LeO.none _
      | refine LeO.ite ?_ ?_
      | refine LeO.bind ?_ (fun _ => ?_)
theorem tartanlaw01_QuoteSizes.mono : ∀ a0 a1 a2 k, LeO (tartanlaw01_QuoteSizes.f k a0 a1 a2) (tartanlaw01_QuoteSizes.f (k + 1) a0 a1 a2) := by
  intro a0 a1 a2 k
  obtain ⟨ih0, ih1⟩ := tartanlaw01_QuoteSizes.mono_l k
  unfold tartanlaw01_QuoteSizes.f
  repeat' first
      | (with_reducible exact ih0 _ _ _ _ _)
      | (with_reducible exact ih1 _ _ _ _ _)
      | (with_reducible exact quote_Plain.mono _ _ _)
      | (with_reducible exact quote_Size.mono _ _ _)
      | (with_reducible exact tartanlaw01_works.mono _)
      | (with_reducible exact LeO.refl _)
      | (with_reducible exact LeO.none _)
      | (with_reducible refine LeO.ite ?_ ?_)
      | (with_reducible refine LeO.bind ?_ (fun _ => ?_))
      | exact ih0 _ _ _ _ _
      | exact ih1 _ _ _ _ _
      | exact quote_Plain.mono _ _ _
      | exact quote_Size.mono _ _ _
      | exact tartanlaw01_works.mono _
      | exact LeO.none _
      | refine LeO.ite ?_ ?_
      | refine LeO.bind ?_ (fun _ => ?_)
set_option maxHeartbeats 8000000 in
set_option maxRecDepth 100000 in
theorem tartanlaw01_QuoteSizes.calls (k : Nat) (a0 : ByteArray) (a1 : ByteArray) (a2 : Int) (r : Bool) (w : World) (h : tartanlaw01_QuoteSizes.f k a0 a1 a2 = some r) :
    Calls Try.prog 8 #[.string a0, .string a1, .int .u8 a2] w fun e w' => e = .returned (.bool r) ∧ Below w.heap.size w w' := by
  have HB := Aside0.mk (Below.refl w.heap.size w)
  have H : ((tartanlaw01_works.f k).bind fun t166 => (if t166 = true then (if (a0.size : Int) > 2000 then (tartanlaw01_QuoteSizes.j0 k a0 a1 a2 t166 true) else (tartanlaw01_QuoteSizes.j0 k a0 a1 a2 t166 (decide ((a1.size : Int) > 2000)))) else (some false))) = some r := h
  clear h
  replace H := Option.bind_eq_some_iff.mp H
  obtain ⟨t166, A40, H⟩ := H
  replace H : (if t166 = true then (if (a0.size : Int) > 2000 then (tartanlaw01_QuoteSizes.j0 k a0 a1 a2 t166 true) else (tartanlaw01_QuoteSizes.j0 k a0 a1 a2 t166 (decide ((a1.size : Int) > 2000)))) else (some false)) = some r := H
  have A4 := Aside0.mk A40
  clear A40
  by_cases c5 : t166 = true
  · subst c5
    have H1 : (if (a0.size : Int) > 2000 then (tartanlaw01_QuoteSizes.j0 k a0 a1 a2 true true) else (tartanlaw01_QuoteSizes.j0 k a0 a1 a2 true (decide ((a1.size : Int) > 2000)))) = some r := by rw [if_pos rfl] at H; exact H
    clear H
    have H := H1
    clear H1
    have HC6 := Aside0.mk H
    clear H
    go_enter Try.func8, Try.ntmps8
    go_upto_region 4 with (first | ((with_reducible refine gate_callee (f := 21) rfl ?_); refine goesL_ (some 12) rfl rfl Try.func21 (by kernel_rfl) rfl #[] rfl (by (try simp only [List.map_toArray, List.map_cons, List.map_nil]); first | done | rfl | (simp only [List.length_drop, List.length_take]; rfl)) ?_; (with_reducible refine (tartanlaw01_works.calls k  true _ A4.out).mono ?_); rintro e w7 ⟨rfl, hb⟩; refine ⟨_, rfl, ?_⟩; have n0_ := Aside0.mk (below_step (by repeat (first | (with_reducible first | exact HB.out | apply below_alloc | apply pw_below_drewN | apply below_drew1) | exact HB.out)) hb); clear HB; have HB := n0_; clear n0_; (try clear hb); (try clear hb2); (try clear hk); (try clear hi)))
    (try simp only [Act.put, List.setIfInBounds_toArray, List.set_cons_zero, List.set_cons_succ])
    go_cut [22] (fun v22 wc => ∃ (kq : Nat) (x22_5 : Bool), v22 = .bool x22_5 ∧ Aside0 (tartanlaw01_QuoteSizes.j0 kq a0 a1 a2 true x22_5 = some r) ∧ Aside0 (kq ≤ k) ∧ Aside0 (Below w.heap.size w wc))
    case first =>
      have H := HC6.out
      clear HC6
      by_cases c8 : (a0.size : Int) > 2000
      · rw [if_pos c8] at H
        have c8b0 : decide (2000 < (a0.size : Int)) = true := decide_eq_true c8
        have c8b1 : decide (2000 < a0.size) = true := decide_eq_true (by omega)
        clear c8
        (first | rw [c8b0] | (simp only [i64_w, i32_w]; rw [c8b0]) | skip)
        have H' := Aside0.mk H
        clear H
        go_wp2
        go_meet
        case rel => exact ⟨_, (true), (by first | rfl | (simp; done) | (simp [*]; done)), H', ⟨by first | omega | exact Nat.le_refl _⟩, ⟨by repeat (first | (with_reducible first | exact HB.out | apply below_alloc | apply pw_below_drewN | apply below_drew1) | exact HB.out)⟩⟩
      · rw [if_neg c8] at H
        have c8b0 : decide (2000 < (a0.size : Int)) = false := decide_eq_false c8
        have c8b1 : decide (2000 < a0.size) = false := decide_eq_false (by omega)
        clear c8
        (first | rw [c8b0] | (simp only [i64_w, i32_w]; rw [c8b0]) | skip)
        have H' := Aside0.mk H
        clear H
        go_wp2
        go_meet
        case rel => exact ⟨_, (decide ((a1.size : Int) > 2000)), (by first | rfl | (simp; done) | (simp [*]; done)), H', ⟨by first | omega | exact Nat.le_refl _⟩, ⟨by repeat (first | (with_reducible first | exact HB.out | apply below_alloc | apply pw_below_drewN | apply below_drew1) | exact HB.out)⟩⟩
    case rest =>
      clear HC6
      try clear c2
      try clear p2
      try clear c5
      try clear c8
      try clear c8b0
      try clear c8b1
      obtain ⟨kq, x22_5, rfl, HA, HJ5, HB⟩ := hcut
      cases kq with
      | zero => exact absurd HA.out (by simp [tartanlaw01_QuoteSizes.j0])
      | succ kj5 =>
        have H := HA.out
        clear HA
        simp only [tartanlaw01_QuoteSizes.j0] at H
        by_cases c9 : x22_5 = true
        · subst c9
          have H1 : (some true) = some r := by rw [if_pos rfl] at H; exact H
          clear H
          have H := H1
          clear H1
          obtain rfl := Option.some.inj H
          go_wp2
          go_ret
          exact ⟨by first | rfl | (simp [errW_none, errW_some] <;> rfl) | (simp [*, errW_none, errW_some] <;> rfl), by repeat (first | (with_reducible first | exact HB.out | apply below_alloc | apply pw_below_drewN | apply below_drew1) | exact HB.out)⟩
        · replace c9 := Bool.eq_false_iff.mpr c9
          subst c9
          have H1 : ((quote_Quoted.f a0).bind fun t167 => ((quote_Quoted.f a1).bind fun t168 => (if a0.size + a1.size ≤ 9223372036854775807 then ((quote_Quoted.f (a0 ++ a1)).bind fun t169 => (if (wrap64 ((t167.size : Int) + (t168.size : Int))) = (wrap64 ((t169.size : Int) + 2)) then ((quote_Plain.f kj5 a0 a2).bind fun t170 => (if t170 = true then ((quote_Plain.f kj5 a1 a2).bind fun t171 => (tartanlaw01_QuoteSizes.j1 kj5 a0 a1 a2 true t171)) else (tartanlaw01_QuoteSizes.j1 kj5 a0 a1 a2 true false))) else (some false))) else (none)))) = some r := by rw [if_neg (show ¬ (false = true) by decide)] at H; exact H
          clear H
          have H := H1
          clear H1
          replace H := Option.bind_eq_some_iff.mp H
          obtain ⟨t167, A100, H⟩ := H
          replace H : ((quote_Quoted.f a1).bind fun t168 => (if a0.size + a1.size ≤ 9223372036854775807 then ((quote_Quoted.f (a0 ++ a1)).bind fun t169 => (if (wrap64 ((t167.size : Int) + (t168.size : Int))) = (wrap64 ((t169.size : Int) + 2)) then ((quote_Plain.f kj5 a0 a2).bind fun t170 => (if t170 = true then ((quote_Plain.f kj5 a1 a2).bind fun t171 => (tartanlaw01_QuoteSizes.j1 kj5 a0 a1 a2 true t171)) else (tartanlaw01_QuoteSizes.j1 kj5 a0 a1 a2 true false))) else (some false))) else (none))) = some r := H
          have A10 := Aside0.mk A100
          clear A100
          replace H := Option.bind_eq_some_iff.mp H
          obtain ⟨t168, A110, H⟩ := H
          replace H : (if a0.size + a1.size ≤ 9223372036854775807 then ((quote_Quoted.f (a0 ++ a1)).bind fun t169 => (if (wrap64 ((t167.size : Int) + (t168.size : Int))) = (wrap64 ((t169.size : Int) + 2)) then ((quote_Plain.f kj5 a0 a2).bind fun t170 => (if t170 = true then ((quote_Plain.f kj5 a1 a2).bind fun t171 => (tartanlaw01_QuoteSizes.j1 kj5 a0 a1 a2 true t171)) else (tartanlaw01_QuoteSizes.j1 kj5 a0 a1 a2 true false))) else (some false))) else (none)) = some r := H
          have A11 := Aside0.mk A110
          clear A110
          by_cases c12 : a0.size + a1.size ≤ 9223372036854775807
          · rw [if_pos c12] at H
            have c12b0 := eq_true c12
            have c12b1 : decide (a0.size + a1.size ≤ 9223372036854775807) = true := decide_eq_true c12
            try have c12b2 : (9223372036854775807 < a0.size + a1.size) = False := eq_false (Nat.not_lt.2 c12)
            replace H := Option.bind_eq_some_iff.mp H
            obtain ⟨t169, A130, H⟩ := H
            replace H : (if (wrap64 ((t167.size : Int) + (t168.size : Int))) = (wrap64 ((t169.size : Int) + 2)) then ((quote_Plain.f kj5 a0 a2).bind fun t170 => (if t170 = true then ((quote_Plain.f kj5 a1 a2).bind fun t171 => (tartanlaw01_QuoteSizes.j1 kj5 a0 a1 a2 true t171)) else (tartanlaw01_QuoteSizes.j1 kj5 a0 a1 a2 true false))) else (some false)) = some r := H
            have A13 := Aside0.mk A130
            clear A130
            by_cases c14 : (wrap64 ((t167.size : Int) + (t168.size : Int))) = (wrap64 ((t169.size : Int) + 2))
            · rw [if_pos c14] at H
              have c14b0 : ((wrap64 ((t167.size : Int) + (t168.size : Int))) == (wrap64 ((t169.size : Int) + 2))) = true := beq_iff_eq.mpr c14
              have c14b1 : ((wrap64 ((t167.size : Int) + (t168.size : Int))) != (wrap64 ((t169.size : Int) + 2))) = false := bne_eq_false_iff_eq.mpr c14
              clear c14
              have HC15 := Aside0.mk H
              clear H
              go_upto_region 9 with (first | ((with_reducible refine gate_callee (f := 24) rfl ?_); refine goesL_ (some 25) rfl rfl Try.func24 (by kernel_rfl) rfl #[.string a0] rfl (by (try simp only [List.map_toArray, List.map_cons, List.map_nil]); first | done | rfl | (simp only [List.length_drop, List.length_take]; rfl)) ?_; (with_reducible refine (quote_Quoted.calls a0 t167 _ A10.out).mono ?_); rintro e w16 ⟨rfl, hb⟩; refine ⟨_, rfl, ?_⟩; have n0_ := Aside0.mk (below_step (by repeat (first | (with_reducible first | exact HB.out | apply below_alloc | apply pw_below_drewN | apply below_drew1) | exact HB.out)) hb); clear HB; have HB := n0_; clear n0_; (try clear hb); (try clear hb2); (try clear hk); (try clear hi)) | ((with_reducible refine gate_callee (f := 24) rfl ?_); refine goesL_ (some 27) rfl rfl Try.func24 (by kernel_rfl) rfl #[.string a1] rfl (by (try simp only [List.map_toArray, List.map_cons, List.map_nil]); first | done | rfl | (simp only [List.length_drop, List.length_take]; rfl)) ?_; (with_reducible refine (quote_Quoted.calls a1 t168 _ A11.out).mono ?_); rintro e w17 ⟨rfl, hb⟩; refine ⟨_, rfl, ?_⟩; have n0_ := Aside0.mk (below_step (by repeat (first | (with_reducible first | exact HB.out | apply below_alloc | apply pw_below_drewN | apply below_drew1) | exact HB.out)) hb); clear HB; have HB := n0_; clear n0_; (try clear hb); (try clear hb2); (try clear hk); (try clear hi)) | ((with_reducible refine gate_callee (f := 24) rfl ?_); refine goesL_ (some 31) rfl rfl Try.func24 (by kernel_rfl) rfl #[.string (a0 ++ a1)] rfl (by (try simp only [List.map_toArray, List.map_cons, List.map_nil]); first | done | rfl | (simp only [List.length_drop, List.length_take]; rfl)) ?_; (with_reducible refine (quote_Quoted.calls (a0 ++ a1) t169 _ A13.out).mono ?_); rintro e w18 ⟨rfl, hb⟩; refine ⟨_, rfl, ?_⟩; have n0_ := Aside0.mk (below_step (by repeat (first | (with_reducible first | exact HB.out | apply below_alloc | apply pw_below_drewN | apply below_drew1) | exact HB.out)) hb); clear HB; have HB := n0_; clear n0_; (try clear hb); (try clear hb2); (try clear hk); (try clear hi)))
              (try simp only [Act.put, List.setIfInBounds_toArray, List.set_cons_zero, List.set_cons_succ])
              go_cut [11] (fun v11 wc => ∃ (kq : Nat) (x11_14 : Bool), v11 = .bool x11_14 ∧ Aside0 (tartanlaw01_QuoteSizes.j1 kq a0 a1 a2 true x11_14 = some r) ∧ Aside0 (kq ≤ kj5) ∧ Aside0 (Below w.heap.size w wc))
              case first =>
                have H := HC15.out
                clear HC15
                replace H := Option.bind_eq_some_iff.mp H
                obtain ⟨t170, A190, H⟩ := H
                replace H : (if t170 = true then ((quote_Plain.f kj5 a1 a2).bind fun t171 => (tartanlaw01_QuoteSizes.j1 kj5 a0 a1 a2 true t171)) else (tartanlaw01_QuoteSizes.j1 kj5 a0 a1 a2 true false)) = some r := H
                have A19 := Aside0.mk A190
                clear A190
                by_cases c20 : t170 = true
                · subst c20
                  have H1 : ((quote_Plain.f kj5 a1 a2).bind fun t171 => (tartanlaw01_QuoteSizes.j1 kj5 a0 a1 a2 true t171)) = some r := by rw [if_pos rfl] at H; exact H
                  clear H
                  have H := H1
                  clear H1
                  replace H := Option.bind_eq_some_iff.mp H
                  obtain ⟨t171, A210, H⟩ := H
                  replace H : (tartanlaw01_QuoteSizes.j1 kj5 a0 a1 a2 true t171) = some r := H
                  have A21 := Aside0.mk A210
                  clear A210
                  have H' := Aside0.mk H
                  clear H
                  go_wp2_with (first | ((with_reducible refine gate_callee (f := 29) rfl ?_); refine goesL_ (some 43) rfl rfl Try.func29 (by kernel_rfl) rfl #[.string a0, .int .u8 a2] rfl (by (try simp only [List.map_toArray, List.map_cons, List.map_nil]); first | done | rfl | (simp only [List.length_drop, List.length_take]; rfl)) ?_; (with_reducible refine (quote_Plain.calls kj5 a0 a2 true _ A19.out).mono ?_); rintro e w' ⟨rfl, ⟨nd, rfl⟩⟩; refine ⟨_, rfl, ?_⟩) | (go_at_call 29; (with_reducible refine (quote_Plain.calls kj5 a1 a2 t171 _ A21.out).mono ?_); rintro e w' ⟨rfl, ⟨nd, rfl⟩⟩))
                  go_meet
                  case rel => exact ⟨_, (t171), (by first | rfl | (simp; done) | (simp [*]; done)), H', ⟨by have := HJ5.out; first | omega | exact Nat.le_refl _⟩, ⟨by repeat (first | (with_reducible first | exact HB.out | apply below_alloc | apply pw_below_drewN | apply below_drew1) | exact HB.out)⟩⟩
                · replace c20 := Bool.eq_false_iff.mpr c20
                  subst c20
                  have H1 : (tartanlaw01_QuoteSizes.j1 kj5 a0 a1 a2 true false) = some r := by rw [if_neg (show ¬ (false = true) by decide)] at H; exact H
                  clear H
                  have H := H1
                  clear H1
                  have H' := Aside0.mk H
                  clear H
                  go_wp2_with (first | ((with_reducible refine gate_callee (f := 29) rfl ?_); refine goesL_ (some 43) rfl rfl Try.func29 (by kernel_rfl) rfl #[.string a0, .int .u8 a2] rfl (by (try simp only [List.map_toArray, List.map_cons, List.map_nil]); first | done | rfl | (simp only [List.length_drop, List.length_take]; rfl)) ?_; (with_reducible refine (quote_Plain.calls kj5 a0 a2 false _ A19.out).mono ?_); rintro e w' ⟨rfl, ⟨nd, rfl⟩⟩; refine ⟨_, rfl, ?_⟩))
                  go_meet
                  case rel => exact ⟨_, (false), (by first | rfl | (simp; done) | (simp [*]; done)), H', ⟨by have := HJ5.out; first | omega | exact Nat.le_refl _⟩, ⟨by repeat (first | (with_reducible first | exact HB.out | apply below_alloc | apply pw_below_drewN | apply below_drew1) | exact HB.out)⟩⟩
              case rest =>
                clear HC15
                try clear c1
                try clear c2
                try clear p2
                try clear c5
                try clear p6
                try clear c8
                try clear c8b0
                try clear c8b1
                try clear c9
                try clear c12
                try clear c12b0
                try clear c12b1
                try clear c12b2
                try clear c14
                try clear c14b0
                try clear c14b1
                try clear c20
                try clear c21
                try clear p2
                obtain ⟨kq, x11_14, rfl, HA, HJ14, HB⟩ := hcut
                cases kq with
                | zero => exact absurd HA.out (by simp [tartanlaw01_QuoteSizes.j1])
                | succ kj14 =>
                  have H := HA.out
                  clear HA
                  simp only [tartanlaw01_QuoteSizes.j1] at H
                  by_cases c22 : a0.size + a1.size ≤ 9223372036854775807
                  · rw [if_pos c22] at H
                    have c22b0 := eq_true c22
                    have c22b1 : decide (a0.size + a1.size ≤ 9223372036854775807) = true := decide_eq_true c22
                    try have c22b2 : (9223372036854775807 < a0.size + a1.size) = False := eq_false (Nat.not_lt.2 c22)
                    replace H := Option.bind_eq_some_iff.mp H
                    obtain ⟨t172, A230, H⟩ := H
                    replace H : (if (t172 != x11_14) = true then (some false) else (if true = true then ((quote_Size.f kj14 a0 a2).bind fun t173 => ((quote_Plain.f kj14 a0 a2).bind fun t174 => (some ((t173 == (a0.size : Int)) == t174)))) else (some false))) = some r := H
                    have A23 := Aside0.mk A230
                    clear A230
                    by_cases c24 : (t172 != x11_14) = true
                    · rw [if_pos c24] at H
                      have c24b0 : (t172 != x11_14) = true := c24
                      (try (have c24b1 : decide (t172 = x11_14) = false := by simpa using c24))
                      (try (have c24b2 : (t172 == x11_14) = false := by simpa using c24))
                      (try (have c24b3 : ¬ (t172 = x11_14) := by simpa using c24))
                      clear c24
                      obtain rfl := Option.some.inj H
                      go_wp2_with (first | ((with_reducible refine gate_callee (f := 29) rfl ?_); refine goesL_ (some 53) rfl rfl Try.func29 (by kernel_rfl) rfl #[.string (a0 ++ a1), .int .u8 a2] rfl (by (try simp only [List.map_toArray, List.map_cons, List.map_nil]); first | done | rfl | (simp only [List.length_drop, List.length_take]; rfl)) ?_; (with_reducible refine (quote_Plain.calls kj14 (a0 ++ a1) a2 t172 _ A23.out).mono ?_); rintro e w' ⟨rfl, ⟨nd, rfl⟩⟩; refine ⟨_, rfl, ?_⟩))
                      go_ret
                      exact ⟨by first | rfl | (simp [errW_none, errW_some] <;> rfl) | (simp [*, errW_none, errW_some] <;> rfl), by repeat (first | (with_reducible first | exact HB.out | apply below_alloc | apply pw_below_drewN | apply below_drew1) | exact HB.out)⟩
                    · rw [if_neg c24] at H
                      have c24b0 : (t172 != x11_14) = false := by simpa using c24
                      (try (have c24b1 : decide (t172 = x11_14) = true := by simpa using c24))
                      (try (have c24b2 : (t172 == x11_14) = true := by simpa using c24))
                      clear c24
                      have H1 : ((quote_Size.f kj14 a0 a2).bind fun t173 => ((quote_Plain.f kj14 a0 a2).bind fun t174 => (some ((t173 == (a0.size : Int)) == t174)))) = some r := by first | (rw [if_pos rfl] at H; exact H) | (rw [if_pos trivial] at H; exact H) | (rw [if_neg not_false] at H; exact H) | simpa using H
                      clear H
                      have H := H1
                      clear H1
                      replace H := Option.bind_eq_some_iff.mp H
                      obtain ⟨t173, A250, H⟩ := H
                      replace H : ((quote_Plain.f kj14 a0 a2).bind fun t174 => (some ((t173 == (a0.size : Int)) == t174))) = some r := H
                      have A25 := Aside0.mk A250
                      clear A250
                      replace H := Option.bind_eq_some_iff.mp H
                      obtain ⟨t174, A260, H⟩ := H
                      replace H : (some ((t173 == (a0.size : Int)) == t174)) = some r := H
                      have A26 := Aside0.mk A260
                      clear A260
                      obtain rfl := Option.some.inj H
                      go_wp2_with (first | ((with_reducible refine gate_callee (f := 29) rfl ?_); refine goesL_ (some 53) rfl rfl Try.func29 (by kernel_rfl) rfl #[.string (a0 ++ a1), .int .u8 a2] rfl (by (try simp only [List.map_toArray, List.map_cons, List.map_nil]); first | done | rfl | (simp only [List.length_drop, List.length_take]; rfl)) ?_; (with_reducible refine (quote_Plain.calls kj14 (a0 ++ a1) a2 t172 _ A23.out).mono ?_); rintro e w' ⟨rfl, ⟨nd, rfl⟩⟩; refine ⟨_, rfl, ?_⟩) | (go_at_call 26; (with_reducible refine (quote_Size.calls kj14 a0 a2 t173 _ A25.out).mono ?_); rintro e w27 ⟨rfl, hb⟩; have n0_ := Aside0.mk (below_step (by repeat (first | (with_reducible first | exact HB.out | apply below_alloc | apply pw_below_drewN | apply below_drew1) | exact HB.out)) hb); clear HB; have HB := n0_; clear n0_; (try clear hb); (try clear hb2); (try clear hk); (try clear hi)) | (go_at_call 29; (with_reducible refine (quote_Plain.calls kj14 a0 a2 t174 _ A26.out).mono ?_); rintro e w' ⟨rfl, ⟨nd, rfl⟩⟩))
                      go_ret
                      exact ⟨by first | rfl | (simp [errW_none, errW_some] <;> rfl) | (simp [*, errW_none, errW_some] <;> rfl), by repeat (first | (with_reducible first | exact HB.out | apply below_alloc | apply pw_below_drewN | apply below_drew1) | exact HB.out)⟩
                  · rw [if_neg c22] at H
                    exact absurd H (by simp)
            · rw [if_neg c14] at H
              have c14b0 : ((wrap64 ((t167.size : Int) + (t168.size : Int))) == (wrap64 ((t169.size : Int) + 2))) = false := beq_eq_false_iff_ne.mpr c14
              have c14b1 : ((wrap64 ((t167.size : Int) + (t168.size : Int))) != (wrap64 ((t169.size : Int) + 2))) = true := bne_iff_ne.mpr c14
              obtain rfl := Option.some.inj H
              go_wp2_with (first | ((with_reducible refine gate_callee (f := 24) rfl ?_); refine goesL_ (some 25) rfl rfl Try.func24 (by kernel_rfl) rfl #[.string a0] rfl (by (try simp only [List.map_toArray, List.map_cons, List.map_nil]); first | done | rfl | (simp only [List.length_drop, List.length_take]; rfl)) ?_; (with_reducible refine (quote_Quoted.calls a0 t167 _ A10.out).mono ?_); rintro e w28 ⟨rfl, hb⟩; refine ⟨_, rfl, ?_⟩; have n0_ := Aside0.mk (below_step (by repeat (first | (with_reducible first | exact HB.out | apply below_alloc | apply pw_below_drewN | apply below_drew1) | exact HB.out)) hb); clear HB; have HB := n0_; clear n0_; (try clear hb); (try clear hb2); (try clear hk); (try clear hi)) | ((with_reducible refine gate_callee (f := 24) rfl ?_); refine goesL_ (some 27) rfl rfl Try.func24 (by kernel_rfl) rfl #[.string a1] rfl (by (try simp only [List.map_toArray, List.map_cons, List.map_nil]); first | done | rfl | (simp only [List.length_drop, List.length_take]; rfl)) ?_; (with_reducible refine (quote_Quoted.calls a1 t168 _ A11.out).mono ?_); rintro e w29 ⟨rfl, hb⟩; refine ⟨_, rfl, ?_⟩; have n0_ := Aside0.mk (below_step (by repeat (first | (with_reducible first | exact HB.out | apply below_alloc | apply pw_below_drewN | apply below_drew1) | exact HB.out)) hb); clear HB; have HB := n0_; clear n0_; (try clear hb); (try clear hb2); (try clear hk); (try clear hi)) | ((with_reducible refine gate_callee (f := 24) rfl ?_); refine goesL_ (some 31) rfl rfl Try.func24 (by kernel_rfl) rfl #[.string (a0 ++ a1)] rfl (by (try simp only [List.map_toArray, List.map_cons, List.map_nil]); first | done | rfl | (simp only [List.length_drop, List.length_take]; rfl)) ?_; (with_reducible refine (quote_Quoted.calls (a0 ++ a1) t169 _ A13.out).mono ?_); rintro e w30 ⟨rfl, hb⟩; refine ⟨_, rfl, ?_⟩; have n0_ := Aside0.mk (below_step (by repeat (first | (with_reducible first | exact HB.out | apply below_alloc | apply pw_below_drewN | apply below_drew1) | exact HB.out)) hb); clear HB; have HB := n0_; clear n0_; (try clear hb); (try clear hb2); (try clear hk); (try clear hi)))
              go_ret
              exact ⟨by first | rfl | (simp [errW_none, errW_some] <;> rfl) | (simp [*, errW_none, errW_some] <;> rfl), by repeat (first | (with_reducible first | exact HB.out | apply below_alloc | apply pw_below_drewN | apply below_drew1) | exact HB.out)⟩
          · rw [if_neg c12] at H
            exact absurd H (by simp)
  · replace c5 := Bool.eq_false_iff.mpr c5
    subst c5
    have H1 : (some false) = some r := by rw [if_neg (show ¬ (false = true) by decide)] at H; exact H
    clear H
    have H := H1
    clear H1
    obtain rfl := Option.some.inj H
    go_enter Try.func8, Try.ntmps8
    go_wp2_with (first | ((with_reducible refine gate_callee (f := 21) rfl ?_); refine goesL_ (some 12) rfl rfl Try.func21 (by kernel_rfl) rfl #[] rfl (by (try simp only [List.map_toArray, List.map_cons, List.map_nil]); first | done | rfl | (simp only [List.length_drop, List.length_take]; rfl)) ?_; (with_reducible refine (tartanlaw01_works.calls k  false _ A4.out).mono ?_); rintro e w31 ⟨rfl, hb⟩; refine ⟨_, rfl, ?_⟩; have n0_ := Aside0.mk (below_step (by repeat (first | (with_reducible first | exact HB.out | apply below_alloc | apply pw_below_drewN | apply below_drew1) | exact HB.out)) hb); clear HB; have HB := n0_; clear n0_; (try clear hb); (try clear hb2); (try clear hk); (try clear hi)))
    go_ret
    exact ⟨by first | rfl | (simp [errW_none, errW_some] <;> rfl) | (simp [*, errW_none, errW_some] <;> rfl), by repeat (first | (with_reducible first | exact HB.out | apply below_alloc | apply pw_below_drewN | apply below_drew1) | exact HB.out)⟩

/-- THE ONE PURE STATEMENT of tartanlaw01_QuoteSizes: yours. -/
def tartanlaw01_QuoteSizes.Pure : Prop := ∀ (a0 : ByteArray) (a1 : ByteArray) (a2 : Int), a0.size ≤ 140737488351232 → a1.size ≤ 140737488351232 → (Lit.int .u8 a2).wf = true → ∃ k, tartanlaw01_QuoteSizes.f k a0 a1 a2 = some true
theorem tartanlaw01_QuoteSizes.walk (P : tartanlaw01_QuoteSizes.Pure) (a0 : ByteArray) (a1 : ByteArray) (a2 : Int) (w : World) (w0 : a0.size ≤ 140737488351232) (w1 : a1.size ≤ 140737488351232) (w2 : (Lit.int .u8 a2).wf = true) :
    Calls Try.prog 8 #[.string a0, .string a1, .int .u8 a2] w fun e w' => e = .returned (.bool true) ∧ Below w.heap.size w w' := by
  obtain ⟨k, h⟩ := P a0 a1 a2 w0 w1 w2
  refine (tartanlaw01_QuoteSizes.calls k a0 a1 a2 true w h).mono ?_
  rintro e w' ⟨rfl, hd⟩
  exact ⟨rfl, hd⟩

end Go.Proofs.Ytggodagdfldndaa.Q
