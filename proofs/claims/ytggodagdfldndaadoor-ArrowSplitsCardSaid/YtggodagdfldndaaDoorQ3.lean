/- Walks of Go functions of this seat against plain Lean functions, written by a program of this session (the kit's print, with hand-proved contracts for what it does not take). Lean checks them. -/
import Derived.Test.YtggodagdfldndaaDoorQ0
import Derived.Test.YtggodagdfldndaaDoorQ1
import Derived.Test.YtggodagdfldndaaDoorQ2
namespace Go.Proofs.YtggodagdfldndaaDoor.Q
open Go.RowKit Go.Proofs.YtggodagdfldndaaDoorW.PrintWords Go.Proofs.YtggodagdfldndaaDoorW.PrintLast Go.Proofs.YtggodagdfldndaaDoorW.PrintMore
attribute [local go_sem] max2_int min2_int max_two min_two max_three min_three max_four min_four   -- for this text's walks alone
set_option linter.unusedVariables false
set_option linter.unusedSimpArgs false

/-! ### tartanlaw18_ArrowTells: function 3 -/
def tartanlaw18_ArrowTells.j0 : Nat → List ByteArray → ByteArray → ByteArray → Bool → Bool → Option (Bool)
  | 0, _, _, _, _, _ => none
  | k + 1, x0, x1, x2, x7, x29 => if x29 = true then (some x7) else ((arrow_Split.f x1 x2).bind fun bt141 => ((tartanref18_Split.f k x1 x2).bind fun bt144 => (if x7 = true then ((arrow_Arrow.f x0).bind fun t147 => ((tartanref18_Arrow.f k x0).bind fun t148 => (if t147.toList = t148.toList then ((arrow_Is.f x2).bind fun t149 => ((tartanref18_Is.f k x2).bind fun t150 => (if t149 = t150 then (if bt141.1.toList = bt144.1.toList then (if bt141.2.1.toList = bt144.2.1.toList then (some (bt141.2.2 == bt144.2.2)) else (some false)) else (some false)) else (some false)))) else (some false)))) else (some false))))
def tartanlaw18_ArrowTells.f (k : Nat) (l0 : List ByteArray) (a1 : ByteArray) (a2 : ByteArray) : Option (Bool) := (tartanlaw18_works.f).bind fun t139 => (if t139 = true then ((tartanlaw18_few.f k l0).bind fun t140 => (if t140 = true then (if (a1.size : Int) > 1500 then (tartanlaw18_ArrowTells.j0 k l0 a1 a2 t139 true) else (tartanlaw18_ArrowTells.j0 k l0 a1 a2 t139 (decide ((a2.size : Int) > 1500)))) else (tartanlaw18_ArrowTells.j0 k l0 a1 a2 t139 true))) else (some false))
theorem tartanlaw18_ArrowTells.mono_l : ∀ k, (∀ y0 y1 y2 y3 y4, LeO (tartanlaw18_ArrowTells.j0 k y0 y1 y2 y3 y4) (tartanlaw18_ArrowTells.j0 (k + 1) y0 y1 y2 y3 y4))
  | 0 => fun _ _ _ _ _ r h => by simp [tartanlaw18_ArrowTells.j0] at h
  | k + 1 => by
    have ih0 := tartanlaw18_ArrowTells.mono_l k
    · intro y0 y1 y2 y3 y4
      unfold tartanlaw18_ArrowTells.j0
      repeat' first
      | (with_reducible exact ih0 _ _ _ _ _)
      | (with_reducible exact tartanlaw18_few.mono _ _)
      | (with_reducible exact tartanref18_Arrow.mono _ _)
      | (with_reducible exact tartanref18_Is.mono _ _)
      | (with_reducible exact tartanref18_Split.mono _ _ _)
      | (with_reducible exact LeO.refl _)
      | (with_reducible exact LeO.none _)
      | (with_reducible refine LeO.ite ?_ ?_)
      | (with_reducible refine LeO.bind ?_ (fun _ => ?_))
      | exact ih0 _ _ _ _ _
      | exact tartanlaw18_few.mono _ _
      | exact tartanref18_Arrow.mono _ _
      | exact tartanref18_Is.mono _ _
      | exact tartanref18_Split.mono _ _ _
      | exact LeO.none _
      | refine LeO.ite ?_ ?_
      | refine LeO.bind ?_ (fun _ => ?_)
theorem tartanlaw18_ArrowTells.mono : ∀ a0 a1 a2 k, LeO (tartanlaw18_ArrowTells.f k a0 a1 a2) (tartanlaw18_ArrowTells.f (k + 1) a0 a1 a2) := by
  intro a0 a1 a2 k
  have ih0 := tartanlaw18_ArrowTells.mono_l k
  unfold tartanlaw18_ArrowTells.f
  repeat' first
      | (with_reducible exact ih0 _ _ _ _ _)
      | (with_reducible exact tartanlaw18_few.mono _ _)
      | (with_reducible exact tartanref18_Arrow.mono _ _)
      | (with_reducible exact tartanref18_Is.mono _ _)
      | (with_reducible exact tartanref18_Split.mono _ _ _)
      | (with_reducible exact LeO.refl _)
      | (with_reducible exact LeO.none _)
      | (with_reducible refine LeO.ite ?_ ?_)
      | (with_reducible refine LeO.bind ?_ (fun _ => ?_))
      | exact ih0 _ _ _ _ _
      | exact tartanlaw18_few.mono _ _
      | exact tartanref18_Arrow.mono _ _
      | exact tartanref18_Is.mono _ _
      | exact tartanref18_Split.mono _ _ _
      | exact LeO.none _
      | refine LeO.ite ?_ ?_
      | refine LeO.bind ?_ (fun _ => ?_)
set_option maxHeartbeats 8000000 in
set_option maxRecDepth 100000 in
theorem tartanlaw18_ArrowTells.calls (k : Nat) (A0 : Option Addr) (c0 : Nat) (l0 : List ByteArray) (a1 : ByteArray) (a2 : ByteArray) (r : Bool) (w : World) (hr0 : Kd.C Kd.string w A0 l0.length l0) (hc0 : l0.length ≤ c0) (hM_ : MaxOk w) (h : tartanlaw18_ArrowTells.f k l0 a1 a2 = some r) :
    Calls Tryd.prog 3 #[.slice A0 l0.length c0, .string a1, .string a2] w fun e w' => e = .returned (.bool r) ∧ Below w.heap.size w w' := by
  have HR0 := Aside0.mk hr0
  have HC0 := Aside0.mk hc0
  clear hr0 hc0
  have HB := Aside0.mk (Below.refl w.heap.size w)
  have H : ((tartanlaw18_works.f).bind fun t139 => (if t139 = true then ((tartanlaw18_few.f k l0).bind fun t140 => (if t140 = true then (if (a1.size : Int) > 1500 then (tartanlaw18_ArrowTells.j0 k l0 a1 a2 t139 true) else (tartanlaw18_ArrowTells.j0 k l0 a1 a2 t139 (decide ((a2.size : Int) > 1500)))) else (tartanlaw18_ArrowTells.j0 k l0 a1 a2 t139 true))) else (some false))) = some r := h
  clear h
  replace H := Option.bind_eq_some_iff.mp H
  obtain ⟨t139, A40, H⟩ := H
  replace H : (if t139 = true then ((tartanlaw18_few.f k l0).bind fun t140 => (if t140 = true then (if (a1.size : Int) > 1500 then (tartanlaw18_ArrowTells.j0 k l0 a1 a2 t139 true) else (tartanlaw18_ArrowTells.j0 k l0 a1 a2 t139 (decide ((a2.size : Int) > 1500)))) else (tartanlaw18_ArrowTells.j0 k l0 a1 a2 t139 true))) else (some false)) = some r := H
  have A4 := Aside0.mk A40
  clear A40
  by_cases c5 : t139 = true
  · subst c5
    have H1 : ((tartanlaw18_few.f k l0).bind fun t140 => (if t140 = true then (if (a1.size : Int) > 1500 then (tartanlaw18_ArrowTells.j0 k l0 a1 a2 true true) else (tartanlaw18_ArrowTells.j0 k l0 a1 a2 true (decide ((a2.size : Int) > 1500)))) else (tartanlaw18_ArrowTells.j0 k l0 a1 a2 true true))) = some r := by rw [if_pos rfl] at H; exact H
    clear H
    have H := H1
    clear H1
    have HC6 := Aside0.mk H
    clear H
    go_enter Tryd.func3, Tryd.ntmps3
    go_upto_region 4 with (first | ((with_reducible refine gate_callee (f := 7) rfl ?_); refine goesL_ (some 14) rfl rfl Tryd.func7 (by kernel_rfl) rfl #[] rfl (by (try simp only [List.map_toArray, List.map_cons, List.map_nil]); first | done | rfl | (simp only [List.length_drop, List.length_take]; rfl)) ?_; (with_reducible refine (tartanlaw18_works.calls  true _ ?sideM A4.out).mono ?_); (case sideM => first | exact hM_ | exact MaxOk.below hM_ (by repeat (first | (with_reducible first | exact HB.out | apply below_alloc | apply pw_below_drewN | apply below_drew1) | exact HB.out)) | exact MaxOk.drawn hM_ (by repeat (first | exact Drawn0.refl _ | apply Drawn0.step))); rintro e w7 ⟨rfl, hb⟩; refine ⟨_, rfl, ?_⟩; have n0_ := Aside0.mk (below_step (by repeat (first | (with_reducible first | exact HB.out | apply below_alloc | apply pw_below_drewN | apply below_drew1) | exact HB.out)) hb); clear HB; have HB := n0_; clear n0_; (try clear hb); (try clear hb2); (try clear hk); (try clear hi)))
    (try simp only [Act.put, List.setIfInBounds_toArray, List.set_cons_zero, List.set_cons_succ])
    go_cut [29] (fun v29 wc => ∃ (kq : Nat) (x29_5 : Bool), v29 = .bool x29_5 ∧ Aside0 (tartanlaw18_ArrowTells.j0 kq l0 a1 a2 true x29_5 = some r) ∧ Aside0 (kq ≤ k) ∧ Aside0 (Below w.heap.size w wc))
    case first =>
      have H := HC6.out
      clear HC6
      replace H := Option.bind_eq_some_iff.mp H
      obtain ⟨t140, A80, H⟩ := H
      replace H : (if t140 = true then (if (a1.size : Int) > 1500 then (tartanlaw18_ArrowTells.j0 k l0 a1 a2 true true) else (tartanlaw18_ArrowTells.j0 k l0 a1 a2 true (decide ((a2.size : Int) > 1500)))) else (tartanlaw18_ArrowTells.j0 k l0 a1 a2 true true)) = some r := H
      have A8 := Aside0.mk A80
      clear A80
      by_cases c9 : t140 = true
      · subst c9
        have H1 : (if (a1.size : Int) > 1500 then (tartanlaw18_ArrowTells.j0 k l0 a1 a2 true true) else (tartanlaw18_ArrowTells.j0 k l0 a1 a2 true (decide ((a2.size : Int) > 1500)))) = some r := by rw [if_pos rfl] at H; exact H
        clear H
        have H := H1
        clear H1
        by_cases c10 : (a1.size : Int) > 1500
        · rw [if_pos c10] at H
          have c10b0 : decide (1500 < (a1.size : Int)) = true := decide_eq_true c10
          have c10b1 : decide (1500 < a1.size) = true := decide_eq_true (by omega)
          clear c10
          (first | rw [c10b0] | (simp only [i64_w, i32_w]; rw [c10b0]) | skip)
          have H' := Aside0.mk H
          clear H
          go_wp2_with (first | ((with_reducible refine gate_callee (f := 8) rfl ?_); refine goesL_ (some 18) rfl rfl Tryd.func8 (by kernel_rfl) rfl #[.slice A0 l0.length c0] rfl (by (try simp only [List.map_toArray, List.map_cons, List.map_nil]); first | done | rfl | (simp only [List.length_drop, List.length_take]; rfl)) ?_; (with_reducible refine (tartanlaw18_few.calls k (fun k_ => k_ < w.heap.size) _ _ l0 true _ ?side1 A8.out).mono ?_); (case side1 => exact Kd.V_mk HC0.out (Kd.F_below (Kd.C_F Kd.heap_string HR0.out) (by repeat (first | (with_reducible first | exact HB.out | apply below_alloc | apply pw_below_drewN | apply below_drew1) | exact HB.out)))); rintro e w11 ⟨rfl, hb⟩; refine ⟨_, rfl, ?_⟩; have n0_ := Aside0.mk (below_step (by repeat (first | (with_reducible first | exact HB.out | apply below_alloc | apply pw_below_drewN | apply below_drew1) | exact HB.out)) hb); clear HB; have HB := n0_; clear n0_; (try clear hb); (try clear hb2); (try clear hk); (try clear hi)))
          go_meet
          case rel => exact ⟨_, (true), (by first | rfl | (simp; done) | (simp [*]; done)), H', ⟨by first | omega | exact Nat.le_refl _⟩, ⟨by repeat (first | (with_reducible first | exact HB.out | apply below_alloc | apply pw_below_drewN | apply below_drew1) | exact HB.out)⟩⟩
        · rw [if_neg c10] at H
          have c10b0 : decide (1500 < (a1.size : Int)) = false := decide_eq_false c10
          have c10b1 : decide (1500 < a1.size) = false := decide_eq_false (by omega)
          clear c10
          (first | rw [c10b0] | (simp only [i64_w, i32_w]; rw [c10b0]) | skip)
          have H' := Aside0.mk H
          clear H
          go_wp2_with (first | ((with_reducible refine gate_callee (f := 8) rfl ?_); refine goesL_ (some 18) rfl rfl Tryd.func8 (by kernel_rfl) rfl #[.slice A0 l0.length c0] rfl (by (try simp only [List.map_toArray, List.map_cons, List.map_nil]); first | done | rfl | (simp only [List.length_drop, List.length_take]; rfl)) ?_; (with_reducible refine (tartanlaw18_few.calls k (fun k_ => k_ < w.heap.size) _ _ l0 true _ ?side1 A8.out).mono ?_); (case side1 => exact Kd.V_mk HC0.out (Kd.F_below (Kd.C_F Kd.heap_string HR0.out) (by repeat (first | (with_reducible first | exact HB.out | apply below_alloc | apply pw_below_drewN | apply below_drew1) | exact HB.out)))); rintro e w12 ⟨rfl, hb⟩; refine ⟨_, rfl, ?_⟩; have n0_ := Aside0.mk (below_step (by repeat (first | (with_reducible first | exact HB.out | apply below_alloc | apply pw_below_drewN | apply below_drew1) | exact HB.out)) hb); clear HB; have HB := n0_; clear n0_; (try clear hb); (try clear hb2); (try clear hk); (try clear hi)))
          go_meet
          case rel => exact ⟨_, (decide ((a2.size : Int) > 1500)), (by first | rfl | (simp; done) | (simp [*]; done)), H', ⟨by first | omega | exact Nat.le_refl _⟩, ⟨by repeat (first | (with_reducible first | exact HB.out | apply below_alloc | apply pw_below_drewN | apply below_drew1) | exact HB.out)⟩⟩
      · replace c9 := Bool.eq_false_iff.mpr c9
        subst c9
        have H1 : (tartanlaw18_ArrowTells.j0 k l0 a1 a2 true true) = some r := by rw [if_neg (show ¬ (false = true) by decide)] at H; exact H
        clear H
        have H := H1
        clear H1
        have H' := Aside0.mk H
        clear H
        go_wp2_with (first | ((with_reducible refine gate_callee (f := 8) rfl ?_); refine goesL_ (some 18) rfl rfl Tryd.func8 (by kernel_rfl) rfl #[.slice A0 l0.length c0] rfl (by (try simp only [List.map_toArray, List.map_cons, List.map_nil]); first | done | rfl | (simp only [List.length_drop, List.length_take]; rfl)) ?_; (with_reducible refine (tartanlaw18_few.calls k (fun k_ => k_ < w.heap.size) _ _ l0 false _ ?side1 A8.out).mono ?_); (case side1 => exact Kd.V_mk HC0.out (Kd.F_below (Kd.C_F Kd.heap_string HR0.out) (by repeat (first | (with_reducible first | exact HB.out | apply below_alloc | apply pw_below_drewN | apply below_drew1) | exact HB.out)))); rintro e w13 ⟨rfl, hb⟩; refine ⟨_, rfl, ?_⟩; have n0_ := Aside0.mk (below_step (by repeat (first | (with_reducible first | exact HB.out | apply below_alloc | apply pw_below_drewN | apply below_drew1) | exact HB.out)) hb); clear HB; have HB := n0_; clear n0_; (try clear hb); (try clear hb2); (try clear hk); (try clear hi)))
        go_meet
        case rel => exact ⟨_, (true), (by first | rfl | (simp; done) | (simp [*]; done)), H', ⟨by first | omega | exact Nat.le_refl _⟩, ⟨by repeat (first | (with_reducible first | exact HB.out | apply below_alloc | apply pw_below_drewN | apply below_drew1) | exact HB.out)⟩⟩
    case rest =>
      clear HC6
      try clear c1
      try clear p2
      try clear c3
      try clear c5
      try clear c7
      try clear c8
      try clear c9
      try clear c10
      try clear c10b0
      try clear c10b1
      obtain ⟨kq, x29_5, rfl, HA, HJ5, HB⟩ := hcut
      cases kq with
      | zero => exact absurd HA.out (by simp [tartanlaw18_ArrowTells.j0])
      | succ kj5 =>
        have H := HA.out
        clear HA
        simp only [tartanlaw18_ArrowTells.j0] at H
        by_cases c14 : x29_5 = true
        · subst c14
          have H1 : (some true) = some r := by rw [if_pos rfl] at H; exact H
          clear H
          have H := H1
          clear H1
          obtain rfl := Option.some.inj H
          go_wp2
          go_ret
          exact ⟨by first | rfl | (simp [errW_none, errW_some] <;> rfl) | (simp [*, errW_none, errW_some] <;> rfl), by repeat (first | (with_reducible first | exact HB.out | apply below_alloc | apply pw_below_drewN | apply below_drew1) | exact HB.out)⟩
        · replace c14 := Bool.eq_false_iff.mpr c14
          subst c14
          have H1 : ((arrow_Split.f a1 a2).bind fun bt141 => ((tartanref18_Split.f kj5 a1 a2).bind fun bt144 => (if true = true then ((arrow_Arrow.f l0).bind fun t147 => ((tartanref18_Arrow.f kj5 l0).bind fun t148 => (if t147.toList = t148.toList then ((arrow_Is.f a2).bind fun t149 => ((tartanref18_Is.f kj5 a2).bind fun t150 => (if t149 = t150 then (if bt141.1.toList = bt144.1.toList then (if bt141.2.1.toList = bt144.2.1.toList then (some (bt141.2.2 == bt144.2.2)) else (some false)) else (some false)) else (some false)))) else (some false)))) else (some false)))) = some r := by rw [if_neg (show ¬ (false = true) by decide)] at H; exact H
          clear H
          have H := H1
          clear H1
          replace H := Option.bind_eq_some_iff.mp H
          obtain ⟨⟨t141, t142, t143⟩, A150, H⟩ := H
          replace H : ((tartanref18_Split.f kj5 a1 a2).bind fun bt144 => (if true = true then ((arrow_Arrow.f l0).bind fun t147 => ((tartanref18_Arrow.f kj5 l0).bind fun t148 => (if t147.toList = t148.toList then ((arrow_Is.f a2).bind fun t149 => ((tartanref18_Is.f kj5 a2).bind fun t150 => (if t149 = t150 then (if t141.toList = bt144.1.toList then (if t142.toList = bt144.2.1.toList then (some (t143 == bt144.2.2)) else (some false)) else (some false)) else (some false)))) else (some false)))) else (some false))) = some r := H
          have A15 := Aside0.mk A150
          clear A150
          replace H := Option.bind_eq_some_iff.mp H
          obtain ⟨⟨t144, t145, t146⟩, A160, H⟩ := H
          replace H : (if true = true then ((arrow_Arrow.f l0).bind fun t147 => ((tartanref18_Arrow.f kj5 l0).bind fun t148 => (if t147.toList = t148.toList then ((arrow_Is.f a2).bind fun t149 => ((tartanref18_Is.f kj5 a2).bind fun t150 => (if t149 = t150 then (if t141.toList = t144.toList then (if t142.toList = t145.toList then (some (t143 == t146)) else (some false)) else (some false)) else (some false)))) else (some false)))) else (some false)) = some r := H
          have A16 := Aside0.mk A160
          clear A160
          have H1 : ((arrow_Arrow.f l0).bind fun t147 => ((tartanref18_Arrow.f kj5 l0).bind fun t148 => (if t147.toList = t148.toList then ((arrow_Is.f a2).bind fun t149 => ((tartanref18_Is.f kj5 a2).bind fun t150 => (if t149 = t150 then (if t141.toList = t144.toList then (if t142.toList = t145.toList then (some (t143 == t146)) else (some false)) else (some false)) else (some false)))) else (some false)))) = some r := by first | (rw [if_pos rfl] at H; exact H) | (rw [if_pos trivial] at H; exact H) | (rw [if_neg not_false] at H; exact H) | simpa using H
          clear H
          have H := H1
          clear H1
          replace H := Option.bind_eq_some_iff.mp H
          obtain ⟨t147, A170, H⟩ := H
          replace H : ((tartanref18_Arrow.f kj5 l0).bind fun t148 => (if t147.toList = t148.toList then ((arrow_Is.f a2).bind fun t149 => ((tartanref18_Is.f kj5 a2).bind fun t150 => (if t149 = t150 then (if t141.toList = t144.toList then (if t142.toList = t145.toList then (some (t143 == t146)) else (some false)) else (some false)) else (some false)))) else (some false))) = some r := H
          have A17 := Aside0.mk A170
          clear A170
          replace H := Option.bind_eq_some_iff.mp H
          obtain ⟨t148, A180, H⟩ := H
          replace H : (if t147.toList = t148.toList then ((arrow_Is.f a2).bind fun t149 => ((tartanref18_Is.f kj5 a2).bind fun t150 => (if t149 = t150 then (if t141.toList = t144.toList then (if t142.toList = t145.toList then (some (t143 == t146)) else (some false)) else (some false)) else (some false)))) else (some false)) = some r := H
          have A18 := Aside0.mk A180
          clear A180
          by_cases c19 : t147.toList = t148.toList
          · rw [if_pos c19] at H
            have c19b0 : (t147.toList == t148.toList) = true := beq_iff_eq.mpr c19
            have c19b1 : (t147.toList != t148.toList) = false := bne_eq_false_iff_eq.mpr c19
            clear c19
            replace H := Option.bind_eq_some_iff.mp H
            obtain ⟨t149, A200, H⟩ := H
            replace H : ((tartanref18_Is.f kj5 a2).bind fun t150 => (if t149 = t150 then (if t141.toList = t144.toList then (if t142.toList = t145.toList then (some (t143 == t146)) else (some false)) else (some false)) else (some false))) = some r := H
            have A20 := Aside0.mk A200
            clear A200
            replace H := Option.bind_eq_some_iff.mp H
            obtain ⟨t150, A210, H⟩ := H
            replace H : (if t149 = t150 then (if t141.toList = t144.toList then (if t142.toList = t145.toList then (some (t143 == t146)) else (some false)) else (some false)) else (some false)) = some r := H
            have A21 := Aside0.mk A210
            clear A210
            by_cases c22 : t149 = t150
            · rw [if_pos c22] at H
              have c22b0 : (t149 == t150) = true := beq_iff_eq.mpr c22
              have c22b1 : (t149 != t150) = false := bne_eq_false_iff_eq.mpr c22
              clear c22
              by_cases c23 : t141.toList = t144.toList
              · rw [if_pos c23] at H
                have c23b0 : (t141.toList == t144.toList) = true := beq_iff_eq.mpr c23
                have c23b1 : (t141.toList != t144.toList) = false := bne_eq_false_iff_eq.mpr c23
                clear c23
                by_cases c24 : t142.toList = t145.toList
                · rw [if_pos c24] at H
                  have c24b0 : (t142.toList == t145.toList) = true := beq_iff_eq.mpr c24
                  have c24b1 : (t142.toList != t145.toList) = false := bne_eq_false_iff_eq.mpr c24
                  clear c24
                  obtain rfl := Option.some.inj H
                  go_wp2_with (first | ((with_reducible refine gate_callee (f := 9) rfl ?_); refine goesL_ (some 34) rfl rfl Tryd.func9 (by kernel_rfl) rfl #[.string a1, .string a2] rfl (by (try simp only [List.map_toArray, List.map_cons, List.map_nil]); first | done | rfl | (simp only [List.length_drop, List.length_take]; rfl)) ?_; (with_reducible refine (arrow_Split.calls a1 a2 t141 t142 t143 _ ?sideM A15.out).mono ?_); (case sideM => first | exact hM_ | exact MaxOk.below hM_ (by repeat (first | (with_reducible first | exact HB.out | apply below_alloc | apply pw_below_drewN | apply below_drew1) | exact HB.out)) | exact MaxOk.drawn hM_ (by repeat (first | exact Drawn0.refl _ | apply Drawn0.step))); rintro e w' ⟨rfl, ⟨nd, rfl⟩⟩; refine ⟨_, rfl, ?_⟩) | ((with_reducible refine gate_callee (f := 10) rfl ?_); refine goesL_ (some 41) rfl rfl Tryd.func10 (by kernel_rfl) rfl #[.string a1, .string a2] rfl (by (try simp only [List.map_toArray, List.map_cons, List.map_nil]); first | done | rfl | (simp only [List.length_drop, List.length_take]; rfl)) ?_; (with_reducible refine (tartanref18_Split.calls kj5 a1 a2 t144 t145 t146 _ A16.out).mono ?_); rintro e w' ⟨rfl, ⟨nd, rfl⟩⟩; refine ⟨_, rfl, ?_⟩) | (go_at_call 11; (with_reducible refine (arrow_Arrow.calls _ _ l0 t147 _ ?side1 ?side2 ?sideM A17.out).mono ?_); (case sideM => first | exact hM_ | exact MaxOk.below hM_ (by repeat (first | (with_reducible first | exact HB.out | apply below_alloc | apply pw_below_drewN | apply below_drew1) | exact HB.out)) | exact MaxOk.drawn hM_ (by repeat (first | exact Drawn0.refl _ | apply Drawn0.step))); (case side1 => repeat (first | exact (Kd.C_below HR0.out (by repeat (first | (with_reducible first | exact HB.out | apply below_alloc | apply pw_below_drewN | apply below_drew1) | exact HB.out))) | (with_reducible refine Kd.C_alloc ?_ _) | (with_reducible refine Kd.C_drewN ?_ _) | (with_reducible refine Kd.C_drew ?_))); (case side2 => exact HC0.out); rintro e w25 ⟨rfl, hb⟩; have n0_ := Aside0.mk (below_step (by repeat (first | (with_reducible first | exact HB.out | apply below_alloc | apply pw_below_drewN | apply below_drew1) | exact HB.out)) hb); clear HB; have HB := n0_; clear n0_; (try clear hb); (try clear hb2); (try clear hk); (try clear hi)) | (go_at_call 12; (with_reducible refine (tartanref18_Arrow.calls kj5 _ _ l0 t148 _ ?side1 ?side2 A18.out).mono ?_); (case side1 => repeat (first | exact (Kd.C_below HR0.out HB.out) | (with_reducible refine Kd.C_alloc ?_ _) | (with_reducible refine Kd.C_drewN ?_ _) | (with_reducible refine Kd.C_drew ?_))); (case side2 => exact HC0.out); rintro e w' ⟨rfl, ⟨nd, rfl⟩⟩) | (go_at_call 13; (with_reducible refine (arrow_Is.calls a2 t149 _ A20.out).mono ?_); rintro e w' ⟨rfl, ⟨nd, rfl⟩⟩) | (go_at_call 14; (with_reducible refine (tartanref18_Is.calls kj5 a2 t150 _ A21.out).mono ?_); rintro e w' ⟨rfl, ⟨nd, rfl⟩⟩))
                  go_ret
                  exact ⟨by first | rfl | (simp [errW_none, errW_some] <;> rfl) | (simp [*, errW_none, errW_some] <;> rfl), by repeat (first | (with_reducible first | exact HB.out | apply below_alloc | apply pw_below_drewN | apply below_drew1) | exact HB.out)⟩
                · rw [if_neg c24] at H
                  have c24b0 : (t142.toList == t145.toList) = false := beq_eq_false_iff_ne.mpr c24
                  have c24b1 : (t142.toList != t145.toList) = true := bne_iff_ne.mpr c24
                  obtain rfl := Option.some.inj H
                  go_wp2_with (first | ((with_reducible refine gate_callee (f := 9) rfl ?_); refine goesL_ (some 34) rfl rfl Tryd.func9 (by kernel_rfl) rfl #[.string a1, .string a2] rfl (by (try simp only [List.map_toArray, List.map_cons, List.map_nil]); first | done | rfl | (simp only [List.length_drop, List.length_take]; rfl)) ?_; (with_reducible refine (arrow_Split.calls a1 a2 t141 t142 t143 _ ?sideM A15.out).mono ?_); (case sideM => first | exact hM_ | exact MaxOk.below hM_ (by repeat (first | (with_reducible first | exact HB.out | apply below_alloc | apply pw_below_drewN | apply below_drew1) | exact HB.out)) | exact MaxOk.drawn hM_ (by repeat (first | exact Drawn0.refl _ | apply Drawn0.step))); rintro e w' ⟨rfl, ⟨nd, rfl⟩⟩; refine ⟨_, rfl, ?_⟩) | ((with_reducible refine gate_callee (f := 10) rfl ?_); refine goesL_ (some 41) rfl rfl Tryd.func10 (by kernel_rfl) rfl #[.string a1, .string a2] rfl (by (try simp only [List.map_toArray, List.map_cons, List.map_nil]); first | done | rfl | (simp only [List.length_drop, List.length_take]; rfl)) ?_; (with_reducible refine (tartanref18_Split.calls kj5 a1 a2 t144 t145 t146 _ A16.out).mono ?_); rintro e w' ⟨rfl, ⟨nd, rfl⟩⟩; refine ⟨_, rfl, ?_⟩) | (go_at_call 11; (with_reducible refine (arrow_Arrow.calls _ _ l0 t147 _ ?side1 ?side2 ?sideM A17.out).mono ?_); (case sideM => first | exact hM_ | exact MaxOk.below hM_ (by repeat (first | (with_reducible first | exact HB.out | apply below_alloc | apply pw_below_drewN | apply below_drew1) | exact HB.out)) | exact MaxOk.drawn hM_ (by repeat (first | exact Drawn0.refl _ | apply Drawn0.step))); (case side1 => repeat (first | exact (Kd.C_below HR0.out (by repeat (first | (with_reducible first | exact HB.out | apply below_alloc | apply pw_below_drewN | apply below_drew1) | exact HB.out))) | (with_reducible refine Kd.C_alloc ?_ _) | (with_reducible refine Kd.C_drewN ?_ _) | (with_reducible refine Kd.C_drew ?_))); (case side2 => exact HC0.out); rintro e w26 ⟨rfl, hb⟩; have n0_ := Aside0.mk (below_step (by repeat (first | (with_reducible first | exact HB.out | apply below_alloc | apply pw_below_drewN | apply below_drew1) | exact HB.out)) hb); clear HB; have HB := n0_; clear n0_; (try clear hb); (try clear hb2); (try clear hk); (try clear hi)) | (go_at_call 12; (with_reducible refine (tartanref18_Arrow.calls kj5 _ _ l0 t148 _ ?side1 ?side2 A18.out).mono ?_); (case side1 => repeat (first | exact (Kd.C_below HR0.out HB.out) | (with_reducible refine Kd.C_alloc ?_ _) | (with_reducible refine Kd.C_drewN ?_ _) | (with_reducible refine Kd.C_drew ?_))); (case side2 => exact HC0.out); rintro e w' ⟨rfl, ⟨nd, rfl⟩⟩) | (go_at_call 13; (with_reducible refine (arrow_Is.calls a2 t149 _ A20.out).mono ?_); rintro e w' ⟨rfl, ⟨nd, rfl⟩⟩) | (go_at_call 14; (with_reducible refine (tartanref18_Is.calls kj5 a2 t150 _ A21.out).mono ?_); rintro e w' ⟨rfl, ⟨nd, rfl⟩⟩))
                  go_ret
                  exact ⟨by first | rfl | (simp [errW_none, errW_some] <;> rfl) | (simp [*, errW_none, errW_some] <;> rfl), by repeat (first | (with_reducible first | exact HB.out | apply below_alloc | apply pw_below_drewN | apply below_drew1) | exact HB.out)⟩
              · rw [if_neg c23] at H
                have c23b0 : (t141.toList == t144.toList) = false := beq_eq_false_iff_ne.mpr c23
                have c23b1 : (t141.toList != t144.toList) = true := bne_iff_ne.mpr c23
                obtain rfl := Option.some.inj H
                go_wp2_with (first | ((with_reducible refine gate_callee (f := 9) rfl ?_); refine goesL_ (some 34) rfl rfl Tryd.func9 (by kernel_rfl) rfl #[.string a1, .string a2] rfl (by (try simp only [List.map_toArray, List.map_cons, List.map_nil]); first | done | rfl | (simp only [List.length_drop, List.length_take]; rfl)) ?_; (with_reducible refine (arrow_Split.calls a1 a2 t141 t142 t143 _ ?sideM A15.out).mono ?_); (case sideM => first | exact hM_ | exact MaxOk.below hM_ (by repeat (first | (with_reducible first | exact HB.out | apply below_alloc | apply pw_below_drewN | apply below_drew1) | exact HB.out)) | exact MaxOk.drawn hM_ (by repeat (first | exact Drawn0.refl _ | apply Drawn0.step))); rintro e w' ⟨rfl, ⟨nd, rfl⟩⟩; refine ⟨_, rfl, ?_⟩) | ((with_reducible refine gate_callee (f := 10) rfl ?_); refine goesL_ (some 41) rfl rfl Tryd.func10 (by kernel_rfl) rfl #[.string a1, .string a2] rfl (by (try simp only [List.map_toArray, List.map_cons, List.map_nil]); first | done | rfl | (simp only [List.length_drop, List.length_take]; rfl)) ?_; (with_reducible refine (tartanref18_Split.calls kj5 a1 a2 t144 t145 t146 _ A16.out).mono ?_); rintro e w' ⟨rfl, ⟨nd, rfl⟩⟩; refine ⟨_, rfl, ?_⟩) | (go_at_call 11; (with_reducible refine (arrow_Arrow.calls _ _ l0 t147 _ ?side1 ?side2 ?sideM A17.out).mono ?_); (case sideM => first | exact hM_ | exact MaxOk.below hM_ (by repeat (first | (with_reducible first | exact HB.out | apply below_alloc | apply pw_below_drewN | apply below_drew1) | exact HB.out)) | exact MaxOk.drawn hM_ (by repeat (first | exact Drawn0.refl _ | apply Drawn0.step))); (case side1 => repeat (first | exact (Kd.C_below HR0.out (by repeat (first | (with_reducible first | exact HB.out | apply below_alloc | apply pw_below_drewN | apply below_drew1) | exact HB.out))) | (with_reducible refine Kd.C_alloc ?_ _) | (with_reducible refine Kd.C_drewN ?_ _) | (with_reducible refine Kd.C_drew ?_))); (case side2 => exact HC0.out); rintro e w27 ⟨rfl, hb⟩; have n0_ := Aside0.mk (below_step (by repeat (first | (with_reducible first | exact HB.out | apply below_alloc | apply pw_below_drewN | apply below_drew1) | exact HB.out)) hb); clear HB; have HB := n0_; clear n0_; (try clear hb); (try clear hb2); (try clear hk); (try clear hi)) | (go_at_call 12; (with_reducible refine (tartanref18_Arrow.calls kj5 _ _ l0 t148 _ ?side1 ?side2 A18.out).mono ?_); (case side1 => repeat (first | exact (Kd.C_below HR0.out HB.out) | (with_reducible refine Kd.C_alloc ?_ _) | (with_reducible refine Kd.C_drewN ?_ _) | (with_reducible refine Kd.C_drew ?_))); (case side2 => exact HC0.out); rintro e w' ⟨rfl, ⟨nd, rfl⟩⟩) | (go_at_call 13; (with_reducible refine (arrow_Is.calls a2 t149 _ A20.out).mono ?_); rintro e w' ⟨rfl, ⟨nd, rfl⟩⟩) | (go_at_call 14; (with_reducible refine (tartanref18_Is.calls kj5 a2 t150 _ A21.out).mono ?_); rintro e w' ⟨rfl, ⟨nd, rfl⟩⟩))
                go_ret
                exact ⟨by first | rfl | (simp [errW_none, errW_some] <;> rfl) | (simp [*, errW_none, errW_some] <;> rfl), by repeat (first | (with_reducible first | exact HB.out | apply below_alloc | apply pw_below_drewN | apply below_drew1) | exact HB.out)⟩
            · rw [if_neg c22] at H
              have c22b0 : (t149 == t150) = false := beq_eq_false_iff_ne.mpr c22
              have c22b1 : (t149 != t150) = true := bne_iff_ne.mpr c22
              obtain rfl := Option.some.inj H
              go_wp2_with (first | ((with_reducible refine gate_callee (f := 9) rfl ?_); refine goesL_ (some 34) rfl rfl Tryd.func9 (by kernel_rfl) rfl #[.string a1, .string a2] rfl (by (try simp only [List.map_toArray, List.map_cons, List.map_nil]); first | done | rfl | (simp only [List.length_drop, List.length_take]; rfl)) ?_; (with_reducible refine (arrow_Split.calls a1 a2 t141 t142 t143 _ ?sideM A15.out).mono ?_); (case sideM => first | exact hM_ | exact MaxOk.below hM_ (by repeat (first | (with_reducible first | exact HB.out | apply below_alloc | apply pw_below_drewN | apply below_drew1) | exact HB.out)) | exact MaxOk.drawn hM_ (by repeat (first | exact Drawn0.refl _ | apply Drawn0.step))); rintro e w' ⟨rfl, ⟨nd, rfl⟩⟩; refine ⟨_, rfl, ?_⟩) | ((with_reducible refine gate_callee (f := 10) rfl ?_); refine goesL_ (some 41) rfl rfl Tryd.func10 (by kernel_rfl) rfl #[.string a1, .string a2] rfl (by (try simp only [List.map_toArray, List.map_cons, List.map_nil]); first | done | rfl | (simp only [List.length_drop, List.length_take]; rfl)) ?_; (with_reducible refine (tartanref18_Split.calls kj5 a1 a2 t144 t145 t146 _ A16.out).mono ?_); rintro e w' ⟨rfl, ⟨nd, rfl⟩⟩; refine ⟨_, rfl, ?_⟩) | (go_at_call 11; (with_reducible refine (arrow_Arrow.calls _ _ l0 t147 _ ?side1 ?side2 ?sideM A17.out).mono ?_); (case sideM => first | exact hM_ | exact MaxOk.below hM_ (by repeat (first | (with_reducible first | exact HB.out | apply below_alloc | apply pw_below_drewN | apply below_drew1) | exact HB.out)) | exact MaxOk.drawn hM_ (by repeat (first | exact Drawn0.refl _ | apply Drawn0.step))); (case side1 => repeat (first | exact (Kd.C_below HR0.out (by repeat (first | (with_reducible first | exact HB.out | apply below_alloc | apply pw_below_drewN | apply below_drew1) | exact HB.out))) | (with_reducible refine Kd.C_alloc ?_ _) | (with_reducible refine Kd.C_drewN ?_ _) | (with_reducible refine Kd.C_drew ?_))); (case side2 => exact HC0.out); rintro e w28 ⟨rfl, hb⟩; have n0_ := Aside0.mk (below_step (by repeat (first | (with_reducible first | exact HB.out | apply below_alloc | apply pw_below_drewN | apply below_drew1) | exact HB.out)) hb); clear HB; have HB := n0_; clear n0_; (try clear hb); (try clear hb2); (try clear hk); (try clear hi)) | (go_at_call 12; (with_reducible refine (tartanref18_Arrow.calls kj5 _ _ l0 t148 _ ?side1 ?side2 A18.out).mono ?_); (case side1 => repeat (first | exact (Kd.C_below HR0.out HB.out) | (with_reducible refine Kd.C_alloc ?_ _) | (with_reducible refine Kd.C_drewN ?_ _) | (with_reducible refine Kd.C_drew ?_))); (case side2 => exact HC0.out); rintro e w' ⟨rfl, ⟨nd, rfl⟩⟩) | (go_at_call 13; (with_reducible refine (arrow_Is.calls a2 t149 _ A20.out).mono ?_); rintro e w' ⟨rfl, ⟨nd, rfl⟩⟩) | (go_at_call 14; (with_reducible refine (tartanref18_Is.calls kj5 a2 t150 _ A21.out).mono ?_); rintro e w' ⟨rfl, ⟨nd, rfl⟩⟩))
              go_ret
              exact ⟨by first | rfl | (simp [errW_none, errW_some] <;> rfl) | (simp [*, errW_none, errW_some] <;> rfl), by repeat (first | (with_reducible first | exact HB.out | apply below_alloc | apply pw_below_drewN | apply below_drew1) | exact HB.out)⟩
          · rw [if_neg c19] at H
            have c19b0 : (t147.toList == t148.toList) = false := beq_eq_false_iff_ne.mpr c19
            have c19b1 : (t147.toList != t148.toList) = true := bne_iff_ne.mpr c19
            obtain rfl := Option.some.inj H
            go_wp2_with (first | ((with_reducible refine gate_callee (f := 9) rfl ?_); refine goesL_ (some 34) rfl rfl Tryd.func9 (by kernel_rfl) rfl #[.string a1, .string a2] rfl (by (try simp only [List.map_toArray, List.map_cons, List.map_nil]); first | done | rfl | (simp only [List.length_drop, List.length_take]; rfl)) ?_; (with_reducible refine (arrow_Split.calls a1 a2 t141 t142 t143 _ ?sideM A15.out).mono ?_); (case sideM => first | exact hM_ | exact MaxOk.below hM_ (by repeat (first | (with_reducible first | exact HB.out | apply below_alloc | apply pw_below_drewN | apply below_drew1) | exact HB.out)) | exact MaxOk.drawn hM_ (by repeat (first | exact Drawn0.refl _ | apply Drawn0.step))); rintro e w' ⟨rfl, ⟨nd, rfl⟩⟩; refine ⟨_, rfl, ?_⟩) | ((with_reducible refine gate_callee (f := 10) rfl ?_); refine goesL_ (some 41) rfl rfl Tryd.func10 (by kernel_rfl) rfl #[.string a1, .string a2] rfl (by (try simp only [List.map_toArray, List.map_cons, List.map_nil]); first | done | rfl | (simp only [List.length_drop, List.length_take]; rfl)) ?_; (with_reducible refine (tartanref18_Split.calls kj5 a1 a2 t144 t145 t146 _ A16.out).mono ?_); rintro e w' ⟨rfl, ⟨nd, rfl⟩⟩; refine ⟨_, rfl, ?_⟩) | (go_at_call 11; (with_reducible refine (arrow_Arrow.calls _ _ l0 t147 _ ?side1 ?side2 ?sideM A17.out).mono ?_); (case sideM => first | exact hM_ | exact MaxOk.below hM_ (by repeat (first | (with_reducible first | exact HB.out | apply below_alloc | apply pw_below_drewN | apply below_drew1) | exact HB.out)) | exact MaxOk.drawn hM_ (by repeat (first | exact Drawn0.refl _ | apply Drawn0.step))); (case side1 => repeat (first | exact (Kd.C_below HR0.out (by repeat (first | (with_reducible first | exact HB.out | apply below_alloc | apply pw_below_drewN | apply below_drew1) | exact HB.out))) | (with_reducible refine Kd.C_alloc ?_ _) | (with_reducible refine Kd.C_drewN ?_ _) | (with_reducible refine Kd.C_drew ?_))); (case side2 => exact HC0.out); rintro e w29 ⟨rfl, hb⟩; have n0_ := Aside0.mk (below_step (by repeat (first | (with_reducible first | exact HB.out | apply below_alloc | apply pw_below_drewN | apply below_drew1) | exact HB.out)) hb); clear HB; have HB := n0_; clear n0_; (try clear hb); (try clear hb2); (try clear hk); (try clear hi)) | (go_at_call 12; (with_reducible refine (tartanref18_Arrow.calls kj5 _ _ l0 t148 _ ?side1 ?side2 A18.out).mono ?_); (case side1 => repeat (first | exact (Kd.C_below HR0.out HB.out) | (with_reducible refine Kd.C_alloc ?_ _) | (with_reducible refine Kd.C_drewN ?_ _) | (with_reducible refine Kd.C_drew ?_))); (case side2 => exact HC0.out); rintro e w' ⟨rfl, ⟨nd, rfl⟩⟩))
            go_ret
            exact ⟨by first | rfl | (simp [errW_none, errW_some] <;> rfl) | (simp [*, errW_none, errW_some] <;> rfl), by repeat (first | (with_reducible first | exact HB.out | apply below_alloc | apply pw_below_drewN | apply below_drew1) | exact HB.out)⟩
  · replace c5 := Bool.eq_false_iff.mpr c5
    subst c5
    have H1 : (some false) = some r := by rw [if_neg (show ¬ (false = true) by decide)] at H; exact H
    clear H
    have H := H1
    clear H1
    obtain rfl := Option.some.inj H
    go_enter Tryd.func3, Tryd.ntmps3
    go_wp2_with (first | ((with_reducible refine gate_callee (f := 7) rfl ?_); refine goesL_ (some 14) rfl rfl Tryd.func7 (by kernel_rfl) rfl #[] rfl (by (try simp only [List.map_toArray, List.map_cons, List.map_nil]); first | done | rfl | (simp only [List.length_drop, List.length_take]; rfl)) ?_; (with_reducible refine (tartanlaw18_works.calls  false _ ?sideM A4.out).mono ?_); (case sideM => first | exact hM_ | exact MaxOk.below hM_ (by repeat (first | (with_reducible first | exact HB.out | apply below_alloc | apply pw_below_drewN | apply below_drew1) | exact HB.out)) | exact MaxOk.drawn hM_ (by repeat (first | exact Drawn0.refl _ | apply Drawn0.step))); rintro e w30 ⟨rfl, hb⟩; refine ⟨_, rfl, ?_⟩; have n0_ := Aside0.mk (below_step (by repeat (first | (with_reducible first | exact HB.out | apply below_alloc | apply pw_below_drewN | apply below_drew1) | exact HB.out)) hb); clear HB; have HB := n0_; clear n0_; (try clear hb); (try clear hb2); (try clear hk); (try clear hi)))
    go_ret
    exact ⟨by first | rfl | (simp [errW_none, errW_some] <;> rfl) | (simp [*, errW_none, errW_some] <;> rfl), by repeat (first | (with_reducible first | exact HB.out | apply below_alloc | apply pw_below_drewN | apply below_drew1) | exact HB.out)⟩

end Go.Proofs.YtggodagdfldndaaDoor.Q
