/- Walks of Go functions of this seat against plain Lean functions, written by a program of this session (the kit's print, with hand-proved contracts for what it does not take). Lean checks them. -/
import Derived.Test.YtggodagdfldndaaDoorQ0
import Derived.Test.YtggodagdfldndaaDoorQ1
namespace Go.Proofs.YtggodagdfldndaaDoor.Q
open Go.RowKit Go.Proofs.YtggodagdfldndaaDoorW.PrintWords Go.Proofs.YtggodagdfldndaaDoorW.PrintLast Go.Proofs.YtggodagdfldndaaDoorW.PrintMore
attribute [local go_sem] max2_int min2_int max_two min_two max_three min_three max_four min_four   -- for this text's walks alone
set_option linter.unusedVariables false
set_option linter.unusedSimpArgs false

/-! ### tartanlaw18_ArrowSplits: function 6 -/
def tartanlaw18_ArrowSplits.j0 : Nat → ByteArray → ByteArray → Bool → Bool → Option (Bool)
  | 0, _, _, _, _ => none
  | k + 1, x0, x1, x5, x22 => if x22 = true then (some x5) else ((arrow_Split.f x0 x1).bind fun bt190 => (if bt190.2.2 = true then ((arrow_Split.f bt190.1 x1).bind fun bt193 => (if x5 = true then ((arrow_Is.f x1).bind fun t196 => (if t196 > 0 then (if bt193.2.2 = true then (some false) else ((arrow_Join.f bt190.1 bt190.2.1 x1).bind fun t197 => (some (t197.toList == x0.toList)))) else (some false))) else (some false))) else (if x5 = true then (if bt190.1.toList = ([] : List UInt8) then (some (bt190.2.1.toList == ([] : List UInt8))) else (some false)) else (some false))))
def tartanlaw18_ArrowSplits.f (k : Nat) (a0 : ByteArray) (a1 : ByteArray) : Option (Bool) := (tartanlaw18_works.f).bind fun t189 => (if t189 = true then (if (a0.size : Int) > 1500 then (tartanlaw18_ArrowSplits.j0 k a0 a1 t189 true) else (tartanlaw18_ArrowSplits.j0 k a0 a1 t189 (decide ((a1.size : Int) > 1500)))) else (some false))
theorem tartanlaw18_ArrowSplits.mono_l : ∀ k, (∀ y0 y1 y2 y3, LeO (tartanlaw18_ArrowSplits.j0 k y0 y1 y2 y3) (tartanlaw18_ArrowSplits.j0 (k + 1) y0 y1 y2 y3))
  | 0 => fun _ _ _ _ r h => by simp [tartanlaw18_ArrowSplits.j0] at h
  | k + 1 => by
    have ih0 := tartanlaw18_ArrowSplits.mono_l k
    · intro y0 y1 y2 y3
      unfold tartanlaw18_ArrowSplits.j0
      repeat' first
      | (with_reducible exact ih0 _ _ _ _)
      | (with_reducible exact LeO.refl _)
      | (with_reducible exact LeO.none _)
      | (with_reducible refine LeO.ite ?_ ?_)
      | (with_reducible refine LeO.bind ?_ (fun _ => ?_))
      | exact ih0 _ _ _ _
      | exact LeO.none _
      | refine LeO.ite ?_ ?_
      | refine LeO.bind ?_ (fun _ => ?_)
theorem tartanlaw18_ArrowSplits.mono : ∀ a0 a1 k, LeO (tartanlaw18_ArrowSplits.f k a0 a1) (tartanlaw18_ArrowSplits.f (k + 1) a0 a1) := by
  intro a0 a1 k
  have ih0 := tartanlaw18_ArrowSplits.mono_l k
  unfold tartanlaw18_ArrowSplits.f
  repeat' first
      | (with_reducible exact ih0 _ _ _ _)
      | (with_reducible exact LeO.refl _)
      | (with_reducible exact LeO.none _)
      | (with_reducible refine LeO.ite ?_ ?_)
      | (with_reducible refine LeO.bind ?_ (fun _ => ?_))
      | exact ih0 _ _ _ _
      | exact LeO.none _
      | refine LeO.ite ?_ ?_
      | refine LeO.bind ?_ (fun _ => ?_)
set_option maxHeartbeats 8000000 in
set_option maxRecDepth 100000 in
theorem tartanlaw18_ArrowSplits.calls (k : Nat) (a0 : ByteArray) (a1 : ByteArray) (r : Bool) (w : World) (hM_ : MaxOk w) (h : tartanlaw18_ArrowSplits.f k a0 a1 = some r) :
    Calls Tryd.prog 6 #[.string a0, .string a1] w fun e w' => e = .returned (.bool r) ∧ Below w.heap.size w w' := by
  have HB := Aside0.mk (Below.refl w.heap.size w)
  have H : ((tartanlaw18_works.f).bind fun t189 => (if t189 = true then (if (a0.size : Int) > 1500 then (tartanlaw18_ArrowSplits.j0 k a0 a1 t189 true) else (tartanlaw18_ArrowSplits.j0 k a0 a1 t189 (decide ((a1.size : Int) > 1500)))) else (some false))) = some r := h
  clear h
  replace H := Option.bind_eq_some_iff.mp H
  obtain ⟨t189, A30, H⟩ := H
  replace H : (if t189 = true then (if (a0.size : Int) > 1500 then (tartanlaw18_ArrowSplits.j0 k a0 a1 t189 true) else (tartanlaw18_ArrowSplits.j0 k a0 a1 t189 (decide ((a1.size : Int) > 1500)))) else (some false)) = some r := H
  have A3 := Aside0.mk A30
  clear A30
  by_cases c4 : t189 = true
  · subst c4
    have H1 : (if (a0.size : Int) > 1500 then (tartanlaw18_ArrowSplits.j0 k a0 a1 true true) else (tartanlaw18_ArrowSplits.j0 k a0 a1 true (decide ((a1.size : Int) > 1500)))) = some r := by rw [if_pos rfl] at H; exact H
    clear H
    have H := H1
    clear H1
    have HC5 := Aside0.mk H
    clear H
    go_enter Tryd.func6, Tryd.ntmps6
    go_upto_region 4 with (first | ((with_reducible refine gate_callee (f := 7) rfl ?_); refine goesL_ (some 12) rfl rfl Tryd.func7 (by kernel_rfl) rfl #[] rfl (by (try simp only [List.map_toArray, List.map_cons, List.map_nil]); first | done | rfl | (simp only [List.length_drop, List.length_take]; rfl)) ?_; (with_reducible refine (tartanlaw18_works.calls  true _ ?sideM A3.out).mono ?_); (case sideM => first | exact hM_ | exact MaxOk.below hM_ (by repeat (first | (with_reducible first | exact HB.out | apply below_alloc | apply pw_below_drewN | apply below_drew1) | exact HB.out)) | exact MaxOk.drawn hM_ (by repeat (first | exact Drawn0.refl _ | apply Drawn0.step))); rintro e w6 ⟨rfl, hb⟩; refine ⟨_, rfl, ?_⟩; have n0_ := Aside0.mk (below_step (by repeat (first | (with_reducible first | exact HB.out | apply below_alloc | apply pw_below_drewN | apply below_drew1) | exact HB.out)) hb); clear HB; have HB := n0_; clear n0_; (try clear hb); (try clear hb2); (try clear hk); (try clear hi)))
    (try simp only [Act.put, List.setIfInBounds_toArray, List.set_cons_zero, List.set_cons_succ])
    go_cut [22] (fun v22 wc => ∃ (kq : Nat) (x22_4 : Bool), v22 = .bool x22_4 ∧ Aside0 (tartanlaw18_ArrowSplits.j0 kq a0 a1 true x22_4 = some r) ∧ Aside0 (kq ≤ k) ∧ Aside0 (Below w.heap.size w wc))
    case first =>
      have H := HC5.out
      clear HC5
      by_cases c7 : (a0.size : Int) > 1500
      · rw [if_pos c7] at H
        have c7b0 : decide (1500 < (a0.size : Int)) = true := decide_eq_true c7
        have c7b1 : decide (1500 < a0.size) = true := decide_eq_true (by omega)
        clear c7
        (first | rw [c7b0] | (simp only [i64_w, i32_w]; rw [c7b0]) | skip)
        have H' := Aside0.mk H
        clear H
        go_wp2
        go_meet
        case rel => exact ⟨_, (true), (by first | rfl | (simp; done) | (simp [*]; done)), H', ⟨by first | omega | exact Nat.le_refl _⟩, ⟨by repeat (first | (with_reducible first | exact HB.out | apply below_alloc | apply pw_below_drewN | apply below_drew1) | exact HB.out)⟩⟩
      · rw [if_neg c7] at H
        have c7b0 : decide (1500 < (a0.size : Int)) = false := decide_eq_false c7
        have c7b1 : decide (1500 < a0.size) = false := decide_eq_false (by omega)
        clear c7
        (first | rw [c7b0] | (simp only [i64_w, i32_w]; rw [c7b0]) | skip)
        have H' := Aside0.mk H
        clear H
        go_wp2
        go_meet
        case rel => exact ⟨_, (decide ((a1.size : Int) > 1500)), (by first | rfl | (simp; done) | (simp [*]; done)), H', ⟨by first | omega | exact Nat.le_refl _⟩, ⟨by repeat (first | (with_reducible first | exact HB.out | apply below_alloc | apply pw_below_drewN | apply below_drew1) | exact HB.out)⟩⟩
    case rest =>
      clear HC5
      try clear p2
      try clear c4
      try clear c6
      try clear c7
      try clear c7b0
      try clear c7b1
      obtain ⟨kq, x22_4, rfl, HA, HJ4, HB⟩ := hcut
      cases kq with
      | zero => exact absurd HA.out (by simp [tartanlaw18_ArrowSplits.j0])
      | succ kj4 =>
        have H := HA.out
        clear HA
        simp only [tartanlaw18_ArrowSplits.j0] at H
        by_cases c8 : x22_4 = true
        · subst c8
          have H1 : (some true) = some r := by rw [if_pos rfl] at H; exact H
          clear H
          have H := H1
          clear H1
          obtain rfl := Option.some.inj H
          go_wp2
          go_ret
          exact ⟨by first | rfl | (simp [errW_none, errW_some] <;> rfl) | (simp [*, errW_none, errW_some] <;> rfl), by repeat (first | (with_reducible first | exact HB.out | apply below_alloc | apply pw_below_drewN | apply below_drew1) | exact HB.out)⟩
        · replace c8 := Bool.eq_false_iff.mpr c8
          subst c8
          have H1 : ((arrow_Split.f a0 a1).bind fun bt190 => (if bt190.2.2 = true then ((arrow_Split.f bt190.1 a1).bind fun bt193 => (if true = true then ((arrow_Is.f a1).bind fun t196 => (if t196 > 0 then (if bt193.2.2 = true then (some false) else ((arrow_Join.f bt190.1 bt190.2.1 a1).bind fun t197 => (some (t197.toList == a0.toList)))) else (some false))) else (some false))) else (if true = true then (if bt190.1.toList = ([] : List UInt8) then (some (bt190.2.1.toList == ([] : List UInt8))) else (some false)) else (some false)))) = some r := by rw [if_neg (show ¬ (false = true) by decide)] at H; exact H
          clear H
          have H := H1
          clear H1
          replace H := Option.bind_eq_some_iff.mp H
          obtain ⟨⟨t190, t191, t192⟩, A90, H⟩ := H
          replace H : (if t192 = true then ((arrow_Split.f t190 a1).bind fun bt193 => (if true = true then ((arrow_Is.f a1).bind fun t196 => (if t196 > 0 then (if bt193.2.2 = true then (some false) else ((arrow_Join.f t190 t191 a1).bind fun t197 => (some (t197.toList == a0.toList)))) else (some false))) else (some false))) else (if true = true then (if t190.toList = ([] : List UInt8) then (some (t191.toList == ([] : List UInt8))) else (some false)) else (some false))) = some r := H
          have A9 := Aside0.mk A90
          clear A90
          by_cases c10 : t192 = true
          · subst c10
            have H1 : ((arrow_Split.f t190 a1).bind fun bt193 => (if true = true then ((arrow_Is.f a1).bind fun t196 => (if t196 > 0 then (if bt193.2.2 = true then (some false) else ((arrow_Join.f t190 t191 a1).bind fun t197 => (some (t197.toList == a0.toList)))) else (some false))) else (some false))) = some r := by rw [if_pos rfl] at H; exact H
            clear H
            have H := H1
            clear H1
            replace H := Option.bind_eq_some_iff.mp H
            obtain ⟨⟨t193, t194, t195⟩, A110, H⟩ := H
            replace H : (if true = true then ((arrow_Is.f a1).bind fun t196 => (if t196 > 0 then (if t195 = true then (some false) else ((arrow_Join.f t190 t191 a1).bind fun t197 => (some (t197.toList == a0.toList)))) else (some false))) else (some false)) = some r := H
            have A11 := Aside0.mk A110
            clear A110
            have H1 : ((arrow_Is.f a1).bind fun t196 => (if t196 > 0 then (if t195 = true then (some false) else ((arrow_Join.f t190 t191 a1).bind fun t197 => (some (t197.toList == a0.toList)))) else (some false))) = some r := by first | (rw [if_pos rfl] at H; exact H) | (rw [if_pos trivial] at H; exact H) | (rw [if_neg not_false] at H; exact H) | simpa using H
            clear H
            have H := H1
            clear H1
            replace H := Option.bind_eq_some_iff.mp H
            obtain ⟨t196, A120, H⟩ := H
            replace H : (if t196 > 0 then (if t195 = true then (some false) else ((arrow_Join.f t190 t191 a1).bind fun t197 => (some (t197.toList == a0.toList)))) else (some false)) = some r := H
            have A12 := Aside0.mk A120
            clear A120
            by_cases c13 : t196 > 0
            · rw [if_pos c13] at H
              have c13b0 : decide (0 < t196) = true := decide_eq_true c13
              clear c13
              by_cases c14 : t195 = true
              · subst c14
                have H1 : (some false) = some r := by rw [if_pos rfl] at H; exact H
                clear H
                have H := H1
                clear H1
                obtain rfl := Option.some.inj H
                go_wp2_with (first | ((with_reducible refine gate_callee (f := 9) rfl ?_); refine goesL_ (some 27) rfl rfl Tryd.func9 (by kernel_rfl) rfl #[.string a0, .string a1] rfl (by (try simp only [List.map_toArray, List.map_cons, List.map_nil]); first | done | rfl | (simp only [List.length_drop, List.length_take]; rfl)) ?_; (with_reducible refine (arrow_Split.calls a0 a1 t190 t191 true _ ?sideM A9.out).mono ?_); (case sideM => first | exact hM_ | exact MaxOk.below hM_ (by repeat (first | (with_reducible first | exact HB.out | apply below_alloc | apply pw_below_drewN | apply below_drew1) | exact HB.out)) | exact MaxOk.drawn hM_ (by repeat (first | exact Drawn0.refl _ | apply Drawn0.step))); rintro e w' ⟨rfl, ⟨nd, rfl⟩⟩; refine ⟨_, rfl, ?_⟩) | ((with_reducible refine gate_callee (f := 9) rfl ?_); refine goesL_ (some 45) rfl rfl Tryd.func9 (by kernel_rfl) rfl #[.string t190, .string a1] rfl (by (try simp only [List.map_toArray, List.map_cons, List.map_nil]); first | done | rfl | (simp only [List.length_drop, List.length_take]; rfl)) ?_; (with_reducible refine (arrow_Split.calls t190 a1 t193 t194 true _ ?sideM A11.out).mono ?_); (case sideM => first | exact hM_ | exact MaxOk.below hM_ (by repeat (first | (with_reducible first | exact HB.out | apply below_alloc | apply pw_below_drewN | apply below_drew1) | exact HB.out)) | exact MaxOk.drawn hM_ (by repeat (first | exact Drawn0.refl _ | apply Drawn0.step))); rintro e w' ⟨rfl, ⟨nd, rfl⟩⟩; refine ⟨_, rfl, ?_⟩) | (go_at_call 13; (with_reducible refine (arrow_Is.calls a1 t196 _ A12.out).mono ?_); rintro e w' ⟨rfl, ⟨nd, rfl⟩⟩))
                go_ret
                exact ⟨by first | rfl | (simp [errW_none, errW_some] <;> rfl) | (simp [*, errW_none, errW_some] <;> rfl), by repeat (first | (with_reducible first | exact HB.out | apply below_alloc | apply pw_below_drewN | apply below_drew1) | exact HB.out)⟩
              · replace c14 := Bool.eq_false_iff.mpr c14
                subst c14
                have H1 : ((arrow_Join.f t190 t191 a1).bind fun t197 => (some (t197.toList == a0.toList))) = some r := by rw [if_neg (show ¬ (false = true) by decide)] at H; exact H
                clear H
                have H := H1
                clear H1
                replace H := Option.bind_eq_some_iff.mp H
                obtain ⟨t197, A150, H⟩ := H
                replace H : (some (t197.toList == a0.toList)) = some r := H
                have A15 := Aside0.mk A150
                clear A150
                obtain rfl := Option.some.inj H
                go_wp2_with (first | ((with_reducible refine gate_callee (f := 9) rfl ?_); refine goesL_ (some 27) rfl rfl Tryd.func9 (by kernel_rfl) rfl #[.string a0, .string a1] rfl (by (try simp only [List.map_toArray, List.map_cons, List.map_nil]); first | done | rfl | (simp only [List.length_drop, List.length_take]; rfl)) ?_; (with_reducible refine (arrow_Split.calls a0 a1 t190 t191 true _ ?sideM A9.out).mono ?_); (case sideM => first | exact hM_ | exact MaxOk.below hM_ (by repeat (first | (with_reducible first | exact HB.out | apply below_alloc | apply pw_below_drewN | apply below_drew1) | exact HB.out)) | exact MaxOk.drawn hM_ (by repeat (first | exact Drawn0.refl _ | apply Drawn0.step))); rintro e w' ⟨rfl, ⟨nd, rfl⟩⟩; refine ⟨_, rfl, ?_⟩) | ((with_reducible refine gate_callee (f := 9) rfl ?_); refine goesL_ (some 45) rfl rfl Tryd.func9 (by kernel_rfl) rfl #[.string t190, .string a1] rfl (by (try simp only [List.map_toArray, List.map_cons, List.map_nil]); first | done | rfl | (simp only [List.length_drop, List.length_take]; rfl)) ?_; (with_reducible refine (arrow_Split.calls t190 a1 t193 t194 false _ ?sideM A11.out).mono ?_); (case sideM => first | exact hM_ | exact MaxOk.below hM_ (by repeat (first | (with_reducible first | exact HB.out | apply below_alloc | apply pw_below_drewN | apply below_drew1) | exact HB.out)) | exact MaxOk.drawn hM_ (by repeat (first | exact Drawn0.refl _ | apply Drawn0.step))); rintro e w' ⟨rfl, ⟨nd, rfl⟩⟩; refine ⟨_, rfl, ?_⟩) | (go_at_call 13; (with_reducible refine (arrow_Is.calls a1 t196 _ A12.out).mono ?_); rintro e w' ⟨rfl, ⟨nd, rfl⟩⟩) | (go_at_call 15; (with_reducible refine (arrow_Join.calls t190 t191 a1 t197 _ A15.out).mono ?_); rintro e w' ⟨rfl, ⟨nd, rfl⟩⟩))
                go_ret
                exact ⟨by first | rfl | (simp [errW_none, errW_some] <;> rfl) | (simp [*, errW_none, errW_some] <;> rfl), by repeat (first | (with_reducible first | exact HB.out | apply below_alloc | apply pw_below_drewN | apply below_drew1) | exact HB.out)⟩
            · rw [if_neg c13] at H
              have c13b0 : decide (0 < t196) = false := decide_eq_false c13
              clear c13
              obtain rfl := Option.some.inj H
              go_wp2_with (first | ((with_reducible refine gate_callee (f := 9) rfl ?_); refine goesL_ (some 27) rfl rfl Tryd.func9 (by kernel_rfl) rfl #[.string a0, .string a1] rfl (by (try simp only [List.map_toArray, List.map_cons, List.map_nil]); first | done | rfl | (simp only [List.length_drop, List.length_take]; rfl)) ?_; (with_reducible refine (arrow_Split.calls a0 a1 t190 t191 true _ ?sideM A9.out).mono ?_); (case sideM => first | exact hM_ | exact MaxOk.below hM_ (by repeat (first | (with_reducible first | exact HB.out | apply below_alloc | apply pw_below_drewN | apply below_drew1) | exact HB.out)) | exact MaxOk.drawn hM_ (by repeat (first | exact Drawn0.refl _ | apply Drawn0.step))); rintro e w' ⟨rfl, ⟨nd, rfl⟩⟩; refine ⟨_, rfl, ?_⟩) | ((with_reducible refine gate_callee (f := 9) rfl ?_); refine goesL_ (some 45) rfl rfl Tryd.func9 (by kernel_rfl) rfl #[.string t190, .string a1] rfl (by (try simp only [List.map_toArray, List.map_cons, List.map_nil]); first | done | rfl | (simp only [List.length_drop, List.length_take]; rfl)) ?_; (with_reducible refine (arrow_Split.calls t190 a1 t193 t194 t195 _ ?sideM A11.out).mono ?_); (case sideM => first | exact hM_ | exact MaxOk.below hM_ (by repeat (first | (with_reducible first | exact HB.out | apply below_alloc | apply pw_below_drewN | apply below_drew1) | exact HB.out)) | exact MaxOk.drawn hM_ (by repeat (first | exact Drawn0.refl _ | apply Drawn0.step))); rintro e w' ⟨rfl, ⟨nd, rfl⟩⟩; refine ⟨_, rfl, ?_⟩) | (go_at_call 13; (with_reducible refine (arrow_Is.calls a1 t196 _ A12.out).mono ?_); rintro e w' ⟨rfl, ⟨nd, rfl⟩⟩))
              go_ret
              exact ⟨by first | rfl | (simp [errW_none, errW_some] <;> rfl) | (simp [*, errW_none, errW_some] <;> rfl), by repeat (first | (with_reducible first | exact HB.out | apply below_alloc | apply pw_below_drewN | apply below_drew1) | exact HB.out)⟩
          · replace c10 := Bool.eq_false_iff.mpr c10
            subst c10
            have H1 : (if true = true then (if t190.toList = ([] : List UInt8) then (some (t191.toList == ([] : List UInt8))) else (some false)) else (some false)) = some r := by rw [if_neg (show ¬ (false = true) by decide)] at H; exact H
            clear H
            have H := H1
            clear H1
            have H1 : (if t190.toList = ([] : List UInt8) then (some (t191.toList == ([] : List UInt8))) else (some false)) = some r := by first | (rw [if_pos rfl] at H; exact H) | (rw [if_pos trivial] at H; exact H) | (rw [if_neg not_false] at H; exact H) | simpa using H
            clear H
            have H := H1
            clear H1
            by_cases c16 : t190.toList = ([] : List UInt8)
            · rw [if_pos c16] at H
              have c16b0 : (t190.toList == ([] : List UInt8)) = true := beq_iff_eq.mpr c16
              have c16b1 : (t190.toList != ([] : List UInt8)) = false := bne_eq_false_iff_eq.mpr c16
              clear c16
              obtain rfl := Option.some.inj H
              go_wp2_with (first | ((with_reducible refine gate_callee (f := 9) rfl ?_); refine goesL_ (some 27) rfl rfl Tryd.func9 (by kernel_rfl) rfl #[.string a0, .string a1] rfl (by (try simp only [List.map_toArray, List.map_cons, List.map_nil]); first | done | rfl | (simp only [List.length_drop, List.length_take]; rfl)) ?_; (with_reducible refine (arrow_Split.calls a0 a1 t190 t191 false _ ?sideM A9.out).mono ?_); (case sideM => first | exact hM_ | exact MaxOk.below hM_ (by repeat (first | (with_reducible first | exact HB.out | apply below_alloc | apply pw_below_drewN | apply below_drew1) | exact HB.out)) | exact MaxOk.drawn hM_ (by repeat (first | exact Drawn0.refl _ | apply Drawn0.step))); rintro e w' ⟨rfl, ⟨nd, rfl⟩⟩; refine ⟨_, rfl, ?_⟩))
              go_ret
              exact ⟨by first | rfl | (simp [errW_none, errW_some] <;> rfl) | (simp [*, errW_none, errW_some] <;> rfl), by repeat (first | (with_reducible first | exact HB.out | apply below_alloc | apply pw_below_drewN | apply below_drew1) | exact HB.out)⟩
            · rw [if_neg c16] at H
              have c16b0 : (t190.toList == ([] : List UInt8)) = false := beq_eq_false_iff_ne.mpr c16
              have c16b1 : (t190.toList != ([] : List UInt8)) = true := bne_iff_ne.mpr c16
              obtain rfl := Option.some.inj H
              go_wp2_with (first | ((with_reducible refine gate_callee (f := 9) rfl ?_); refine goesL_ (some 27) rfl rfl Tryd.func9 (by kernel_rfl) rfl #[.string a0, .string a1] rfl (by (try simp only [List.map_toArray, List.map_cons, List.map_nil]); first | done | rfl | (simp only [List.length_drop, List.length_take]; rfl)) ?_; (with_reducible refine (arrow_Split.calls a0 a1 t190 t191 false _ ?sideM A9.out).mono ?_); (case sideM => first | exact hM_ | exact MaxOk.below hM_ (by repeat (first | (with_reducible first | exact HB.out | apply below_alloc | apply pw_below_drewN | apply below_drew1) | exact HB.out)) | exact MaxOk.drawn hM_ (by repeat (first | exact Drawn0.refl _ | apply Drawn0.step))); rintro e w' ⟨rfl, ⟨nd, rfl⟩⟩; refine ⟨_, rfl, ?_⟩))
              go_ret
              exact ⟨by first | rfl | (simp [errW_none, errW_some] <;> rfl) | (simp [*, errW_none, errW_some] <;> rfl), by repeat (first | (with_reducible first | exact HB.out | apply below_alloc | apply pw_below_drewN | apply below_drew1) | exact HB.out)⟩
  · replace c4 := Bool.eq_false_iff.mpr c4
    subst c4
    have H1 : (some false) = some r := by rw [if_neg (show ¬ (false = true) by decide)] at H; exact H
    clear H
    have H := H1
    clear H1
    obtain rfl := Option.some.inj H
    go_enter Tryd.func6, Tryd.ntmps6
    go_wp2_with (first | ((with_reducible refine gate_callee (f := 7) rfl ?_); refine goesL_ (some 12) rfl rfl Tryd.func7 (by kernel_rfl) rfl #[] rfl (by (try simp only [List.map_toArray, List.map_cons, List.map_nil]); first | done | rfl | (simp only [List.length_drop, List.length_take]; rfl)) ?_; (with_reducible refine (tartanlaw18_works.calls  false _ ?sideM A3.out).mono ?_); (case sideM => first | exact hM_ | exact MaxOk.below hM_ (by repeat (first | (with_reducible first | exact HB.out | apply below_alloc | apply pw_below_drewN | apply below_drew1) | exact HB.out)) | exact MaxOk.drawn hM_ (by repeat (first | exact Drawn0.refl _ | apply Drawn0.step))); rintro e w17 ⟨rfl, hb⟩; refine ⟨_, rfl, ?_⟩; have n0_ := Aside0.mk (below_step (by repeat (first | (with_reducible first | exact HB.out | apply below_alloc | apply pw_below_drewN | apply below_drew1) | exact HB.out)) hb); clear HB; have HB := n0_; clear n0_; (try clear hb); (try clear hb2); (try clear hk); (try clear hi)))
    go_ret
    exact ⟨by first | rfl | (simp [errW_none, errW_some] <;> rfl) | (simp [*, errW_none, errW_some] <;> rfl), by repeat (first | (with_reducible first | exact HB.out | apply below_alloc | apply pw_below_drewN | apply below_drew1) | exact HB.out)⟩

/-- THE ONE PURE STATEMENT of tartanlaw18_ArrowSplits: yours. -/
def tartanlaw18_ArrowSplits.Pure : Prop := ∀ (a0 : ByteArray) (a1 : ByteArray), a0.size ≤ 140737488351232 → a1.size ≤ 140737488351232 → ∃ k, tartanlaw18_ArrowSplits.f k a0 a1 = some true
theorem tartanlaw18_ArrowSplits.walk (P : tartanlaw18_ArrowSplits.Pure) (a0 : ByteArray) (a1 : ByteArray) (w : World) (w0 : a0.size ≤ 140737488351232) (w1 : a1.size ≤ 140737488351232) (hM_ : MaxOk w) :
    Calls Tryd.prog 6 #[.string a0, .string a1] w fun e w' => e = .returned (.bool true) ∧ Below w.heap.size w w' := by
  obtain ⟨k, h⟩ := P a0 a1 w0 w1
  refine (tartanlaw18_ArrowSplits.calls k a0 a1 true w hM_ h).mono ?_
  rintro e w' ⟨rfl, hd⟩
  exact ⟨rfl, hd⟩

end Go.Proofs.YtggodagdfldndaaDoor.Q
