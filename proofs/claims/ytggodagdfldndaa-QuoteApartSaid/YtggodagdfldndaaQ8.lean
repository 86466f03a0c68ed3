/- Walks of Go functions of this seat against plain Lean functions, written by a program of this session (the kit's print, with hand-proved contracts for what it does not take). Lean checks them. -/
import Derived.Test.YtggodagdfldndaaQ0
import Derived.Test.YtggodagdfldndaaQ1
namespace Go.Proofs.Ytggodagdfldndaa.Q
open Go.RowKit Go.Proofs.YtggodagdfldndaaW.PrintWords Go.Proofs.YtggodagdfldndaaW.PrintLast Go.Proofs.YtggodagdfldndaaW.PrintMore
attribute [local go_sem] max2_int min2_int max_two min_two max_three min_three max_four min_four   -- for this text's walks alone
set_option linter.unusedVariables false
set_option linter.unusedSimpArgs false

/-! ### tartanlaw01_QuoteApart: function 7 -/
def tartanlaw01_QuoteApart.j0 : Nat → ByteArray → ByteArray → Int → Bool → Bool → Option (Bool)
  | 0, _, _, _, _, _ => none
  | k + 1, x0, x1, x2, x7, x18 => if x18 = true then (some x7) else (if x7 = true then ((quote_Put.f k x0 x2).bind fun t162 => ((quote_Put.f k x1 x2).bind fun t163 => (if ((t162.toList == t163.toList) == (x0.toList == x1.toList)) = true then ((quote_Quoted.f x0).bind fun t164 => ((quote_Quoted.f x1).bind fun t165 => (some ((t164.toList == t165.toList) == (x0.toList == x1.toList))))) else (some false)))) else (some false))
def tartanlaw01_QuoteApart.f (k : Nat) (a0 : ByteArray) (a1 : ByteArray) (a2 : Int) : Option (Bool) := (tartanlaw01_works.f k).bind fun t161 => (if t161 = true then (if (a0.size : Int) > 2000 then (tartanlaw01_QuoteApart.j0 k a0 a1 a2 t161 true) else (tartanlaw01_QuoteApart.j0 k a0 a1 a2 t161 (decide ((a1.size : Int) > 2000)))) else (some false))
theorem tartanlaw01_QuoteApart.mono_l : ∀ k, (∀ y0 y1 y2 y3 y4, LeO (tartanlaw01_QuoteApart.j0 k y0 y1 y2 y3 y4) (tartanlaw01_QuoteApart.j0 (k + 1) y0 y1 y2 y3 y4))
  | 0 => fun _ _ _ _ _ r h => by simp [tartanlaw01_QuoteApart.j0] at h
  | k + 1 => by
    have ih0 := tartanlaw01_QuoteApart.mono_l k
    · intro y0 y1 y2 y3 y4
      unfold tartanlaw01_QuoteApart.j0
      repeat' first
      | (with_reducible exact ih0 _ _ _ _ _)
      | (with_reducible exact quote_Put.mono _ _ _)
      | (with_reducible exact tartanlaw01_works.mono _)
      | (with_reducible exact LeO.refl _)
      | (with_reducible exact LeO.none _)
      | (with_reducible refine LeO.ite ?_ ?_)
      | (with_reducible refine LeO.bind ?_ (fun _ => ?_))
      | exact ih0 _ _ _ _ _
      | exact quote_Put.mono _ _ _
      | exact tartanlaw01_works.mono _
      | exact LeO.none _
      | refine LeO.ite ?_ ?_
      | refine LeO.bind ?_ (fun _ => ?_)
theorem tartanlaw01_QuoteApart.mono : ∀ a0 a1 a2 k, LeO (tartanlaw01_QuoteApart.f k a0 a1 a2) (tartanlaw01_QuoteApart.f (k + 1) a0 a1 a2) := by
  intro a0 a1 a2 k
  have ih0 := tartanlaw01_QuoteApart.mono_l k
  unfold tartanlaw01_QuoteApart.f
  repeat' first
      | (with_reducible exact ih0 _ _ _ _ _)
      | (with_reducible exact quote_Put.mono _ _ _)
      | (with_reducible exact tartanlaw01_works.mono _)
      | (with_reducible exact LeO.refl _)
      | (with_reducible exact LeO.none _)
      | (with_reducible refine LeO.ite ?_ ?_)
      | (with_reducible refine LeO.bind ?_ (fun _ => ?_))
      | exact ih0 _ _ _ _ _
      | exact quote_Put.mono _ _ _
      | exact tartanlaw01_works.mono _
      | exact LeO.none _
      | refine LeO.ite ?_ ?_
      | refine LeO.bind ?_ (fun _ => ?_)
set_option maxHeartbeats 8000000 in
set_option maxRecDepth 100000 in
theorem tartanlaw01_QuoteApart.calls (k : Nat) (a0 : ByteArray) (a1 : ByteArray) (a2 : Int) (r : Bool) (w : World) (h : tartanlaw01_QuoteApart.f k a0 a1 a2 = some r) :
    Calls Try.prog 7 #[.string a0, .string a1, .int .u8 a2] w fun e w' => e = .returned (.bool r) ∧ Below w.heap.size w w' := by
  have HB := Aside0.mk (Below.refl w.heap.size w)
  have H : ((tartanlaw01_works.f k).bind fun t161 => (if t161 = true then (if (a0.size : Int) > 2000 then (tartanlaw01_QuoteApart.j0 k a0 a1 a2 t161 true) else (tartanlaw01_QuoteApart.j0 k a0 a1 a2 t161 (decide ((a1.size : Int) > 2000)))) else (some false))) = some r := h
  clear h
  replace H := Option.bind_eq_some_iff.mp H
  obtain ⟨t161, A40, H⟩ := H
  replace H : (if t161 = true then (if (a0.size : Int) > 2000 then (tartanlaw01_QuoteApart.j0 k a0 a1 a2 t161 true) else (tartanlaw01_QuoteApart.j0 k a0 a1 a2 t161 (decide ((a1.size : Int) > 2000)))) else (some false)) = some r := H
  have A4 := Aside0.mk A40
  clear A40
  by_cases c5 : t161 = true
  · subst c5
    have H1 : (if (a0.size : Int) > 2000 then (tartanlaw01_QuoteApart.j0 k a0 a1 a2 true true) else (tartanlaw01_QuoteApart.j0 k a0 a1 a2 true (decide ((a1.size : Int) > 2000)))) = some r := by rw [if_pos rfl] at H; exact H
    clear H
    have H := H1
    clear H1
    have HC6 := Aside0.mk H
    clear H
    go_enter Try.func7, Try.ntmps7
    go_upto_region 4 with (first | ((with_reducible refine gate_callee (f := 21) rfl ?_); refine goesL_ (some 8) rfl rfl Try.func21 (by kernel_rfl) rfl #[] rfl (by (try simp only [List.map_toArray, List.map_cons, List.map_nil]); first | done | rfl | (simp only [List.length_drop, List.length_take]; rfl)) ?_; (with_reducible refine (tartanlaw01_works.calls k  true _ A4.out).mono ?_); rintro e w7 ⟨rfl, hb⟩; refine ⟨_, rfl, ?_⟩; have n0_ := Aside0.mk (below_step (by repeat (first | (with_reducible first | exact HB.out | apply below_alloc | apply pw_below_drewN | apply below_drew1) | exact HB.out)) hb); clear HB; have HB := n0_; clear n0_; (try clear hb); (try clear hb2); (try clear hk); (try clear hi)))
    (try simp only [Act.put, List.setIfInBounds_toArray, List.set_cons_zero, List.set_cons_succ])
    go_cut [18] (fun v18 wc => ∃ (kq : Nat) (x18_5 : Bool), v18 = .bool x18_5 ∧ Aside0 (tartanlaw01_QuoteApart.j0 kq a0 a1 a2 true x18_5 = some r) ∧ Aside0 (kq ≤ k) ∧ Aside0 (Below w.heap.size w wc))
    case first =>
      have H := HC6.out
      clear HC6
      by_cases c8 : (a0.size : Int) > 2000
      · rw [if_pos c8] at H
        have c8b0 : decide (2000 < (a0.size : Int)) = true := decide_eq_true c8
        have c8b1 : decide (2000 < a0.size) = true := decide_eq_true (by omega)
        clear c8
        (first | rw [c8b0] | (simp only [i64_w, i32_w]; rw [c8b0]) | skip)
        have H' := Aside0.mk H
        clear H
        go_wp2
        go_meet
        case rel => exact ⟨_, (true), (by first | rfl | (simp; done) | (simp [*]; done)), H', ⟨by first | omega | exact Nat.le_refl _⟩, ⟨by repeat (first | (with_reducible first | exact HB.out | apply below_alloc | apply pw_below_drewN | apply below_drew1) | exact HB.out)⟩⟩
      · rw [if_neg c8] at H
        have c8b0 : decide (2000 < (a0.size : Int)) = false := decide_eq_false c8
        have c8b1 : decide (2000 < a0.size) = false := decide_eq_false (by omega)
        clear c8
        (first | rw [c8b0] | (simp only [i64_w, i32_w]; rw [c8b0]) | skip)
        have H' := Aside0.mk H
        clear H
        go_wp2
        go_meet
        case rel => exact ⟨_, (decide ((a1.size : Int) > 2000)), (by first | rfl | (simp; done) | (simp [*]; done)), H', ⟨by first | omega | exact Nat.le_refl _⟩, ⟨by repeat (first | (with_reducible first | exact HB.out | apply below_alloc | apply pw_below_drewN | apply below_drew1) | exact HB.out)⟩⟩
    case rest =>
      clear HC6
      try clear c2
      try clear p2
      try clear c5
      try clear c7
      try clear c8
      try clear c8b0
      try clear c8b1
      obtain ⟨kq, x18_5, rfl, HA, HJ5, HB⟩ := hcut
      cases kq with
      | zero => exact absurd HA.out (by simp [tartanlaw01_QuoteApart.j0])
      | succ kj5 =>
        have H := HA.out
        clear HA
        simp only [tartanlaw01_QuoteApart.j0] at H
        by_cases c9 : x18_5 = true
        · subst c9
          have H1 : (some true) = some r := by rw [if_pos rfl] at H; exact H
          clear H
          have H := H1
          clear H1
          obtain rfl := Option.some.inj H
          go_wp2
          go_ret
          exact ⟨by first | rfl | (simp [errW_none, errW_some] <;> rfl) | (simp [*, errW_none, errW_some] <;> rfl), by repeat (first | (with_reducible first | exact HB.out | apply below_alloc | apply pw_below_drewN | apply below_drew1) | exact HB.out)⟩
        · replace c9 := Bool.eq_false_iff.mpr c9
          subst c9
          have H1 : (if true = true then ((quote_Put.f kj5 a0 a2).bind fun t162 => ((quote_Put.f kj5 a1 a2).bind fun t163 => (if ((t162.toList == t163.toList) == (a0.toList == a1.toList)) = true then ((quote_Quoted.f a0).bind fun t164 => ((quote_Quoted.f a1).bind fun t165 => (some ((t164.toList == t165.toList) == (a0.toList == a1.toList))))) else (some false)))) else (some false)) = some r := by rw [if_neg (show ¬ (false = true) by decide)] at H; exact H
          clear H
          have H := H1
          clear H1
          have H1 : ((quote_Put.f kj5 a0 a2).bind fun t162 => ((quote_Put.f kj5 a1 a2).bind fun t163 => (if ((t162.toList == t163.toList) == (a0.toList == a1.toList)) = true then ((quote_Quoted.f a0).bind fun t164 => ((quote_Quoted.f a1).bind fun t165 => (some ((t164.toList == t165.toList) == (a0.toList == a1.toList))))) else (some false)))) = some r := by first | (rw [if_pos rfl] at H; exact H) | (rw [if_pos trivial] at H; exact H) | (rw [if_neg not_false] at H; exact H) | simpa using H
          clear H
          have H := H1
          clear H1
          replace H := Option.bind_eq_some_iff.mp H
          obtain ⟨t162, A100, H⟩ := H
          replace H : ((quote_Put.f kj5 a1 a2).bind fun t163 => (if ((t162.toList == t163.toList) == (a0.toList == a1.toList)) = true then ((quote_Quoted.f a0).bind fun t164 => ((quote_Quoted.f a1).bind fun t165 => (some ((t164.toList == t165.toList) == (a0.toList == a1.toList))))) else (some false))) = some r := H
          have A10 := Aside0.mk A100
          clear A100
          replace H := Option.bind_eq_some_iff.mp H
          obtain ⟨t163, A110, H⟩ := H
          replace H : (if ((t162.toList == t163.toList) == (a0.toList == a1.toList)) = true then ((quote_Quoted.f a0).bind fun t164 => ((quote_Quoted.f a1).bind fun t165 => (some ((t164.toList == t165.toList) == (a0.toList == a1.toList))))) else (some false)) = some r := H
          have A11 := Aside0.mk A110
          clear A110
          by_cases c12 : ((t162.toList == t163.toList) == (a0.toList == a1.toList)) = true
          · rw [if_pos c12] at H
            have c12b0 : ((t162.toList == t163.toList) == (a0.toList == a1.toList)) = true := c12
            (try (have c12b1 : decide ((t162.toList == t163.toList) = (a0.toList == a1.toList)) = true := by simpa using c12))
            (try (have c12b2 : ((t162.toList == t163.toList) == (a0.toList == a1.toList)) = true := by simpa using c12))
            clear c12
            replace H := Option.bind_eq_some_iff.mp H
            obtain ⟨t164, A130, H⟩ := H
            replace H : ((quote_Quoted.f a1).bind fun t165 => (some ((t164.toList == t165.toList) == (a0.toList == a1.toList)))) = some r := H
            have A13 := Aside0.mk A130
            clear A130
            replace H := Option.bind_eq_some_iff.mp H
            obtain ⟨t165, A140, H⟩ := H
            replace H : (some ((t164.toList == t165.toList) == (a0.toList == a1.toList))) = some r := H
            have A14 := Aside0.mk A140
            clear A140
            obtain rfl := Option.some.inj H
            go_wp2_with (first | (go_at_call 23; (with_reducible refine (quote_Put.calls kj5 a0 a2 t162 _ A10.out).mono ?_); rintro e w15 ⟨rfl, hb⟩; have n0_ := Aside0.mk (below_step (by repeat (first | (with_reducible first | exact HB.out | apply below_alloc | apply pw_below_drewN | apply below_drew1) | exact HB.out)) hb); clear HB; have HB := n0_; clear n0_; (try clear hb); (try clear hb2); (try clear hk); (try clear hi)) | (go_at_call 23; (with_reducible refine (quote_Put.calls kj5 a1 a2 t163 _ A11.out).mono ?_); rintro e w16 ⟨rfl, hb⟩; have n0_ := Aside0.mk (below_step (by repeat (first | (with_reducible first | exact HB.out | apply below_alloc | apply pw_below_drewN | apply below_drew1) | exact HB.out)) hb); clear HB; have HB := n0_; clear n0_; (try clear hb); (try clear hb2); (try clear hk); (try clear hi)) | (go_at_call 24; (with_reducible refine (quote_Quoted.calls a0 t164 _ A13.out).mono ?_); rintro e w17 ⟨rfl, hb⟩; have n0_ := Aside0.mk (below_step (by repeat (first | (with_reducible first | exact HB.out | apply below_alloc | apply pw_below_drewN | apply below_drew1) | exact HB.out)) hb); clear HB; have HB := n0_; clear n0_; (try clear hb); (try clear hb2); (try clear hk); (try clear hi)) | (go_at_call 24; (with_reducible refine (quote_Quoted.calls a1 t165 _ A14.out).mono ?_); rintro e w18 ⟨rfl, hb⟩; have n0_ := Aside0.mk (below_step (by repeat (first | (with_reducible first | exact HB.out | apply below_alloc | apply pw_below_drewN | apply below_drew1) | exact HB.out)) hb); clear HB; have HB := n0_; clear n0_; (try clear hb); (try clear hb2); (try clear hk); (try clear hi)))
            go_ret
            exact ⟨by first | rfl | (simp [errW_none, errW_some] <;> rfl) | (simp [*, errW_none, errW_some] <;> rfl), by repeat (first | (with_reducible first | exact HB.out | apply below_alloc | apply pw_below_drewN | apply below_drew1) | exact HB.out)⟩
          · rw [if_neg c12] at H
            have c12b0 : ((t162.toList == t163.toList) == (a0.toList == a1.toList)) = false := by simpa using c12
            (try (have c12b1 : decide ((t162.toList == t163.toList) = (a0.toList == a1.toList)) = false := by simpa using c12))
            (try (have c12b2 : ((t162.toList == t163.toList) == (a0.toList == a1.toList)) = false := by simpa using c12))
            (try (have c12b3 : ¬ ((t162.toList == t163.toList) = (a0.toList == a1.toList)) := by simpa using c12))
            clear c12
            obtain rfl := Option.some.inj H
            go_wp2_with (first | (go_at_call 23; (with_reducible refine (quote_Put.calls kj5 a0 a2 t162 _ A10.out).mono ?_); rintro e w19 ⟨rfl, hb⟩; have n0_ := Aside0.mk (below_step (by repeat (first | (with_reducible first | exact HB.out | apply below_alloc | apply pw_below_drewN | apply below_drew1) | exact HB.out)) hb); clear HB; have HB := n0_; clear n0_; (try clear hb); (try clear hb2); (try clear hk); (try clear hi)) | (go_at_call 23; (with_reducible refine (quote_Put.calls kj5 a1 a2 t163 _ A11.out).mono ?_); rintro e w20 ⟨rfl, hb⟩; have n0_ := Aside0.mk (below_step (by repeat (first | (with_reducible first | exact HB.out | apply below_alloc | apply pw_below_drewN | apply below_drew1) | exact HB.out)) hb); clear HB; have HB := n0_; clear n0_; (try clear hb); (try clear hb2); (try clear hk); (try clear hi)))
            go_ret
            exact ⟨by first | rfl | (simp [errW_none, errW_some] <;> rfl) | (simp [*, errW_none, errW_some] <;> rfl), by repeat (first | (with_reducible first | exact HB.out | apply below_alloc | apply pw_below_drewN | apply below_drew1) | exact HB.out)⟩
  · replace c5 := Bool.eq_false_iff.mpr c5
    subst c5
    have H1 : (some false) = some r := by rw [if_neg (show ¬ (false = true) by decide)] at H; exact H
    clear H
    have H := H1
    clear H1
    obtain rfl := Option.some.inj H
    go_enter Try.func7, Try.ntmps7
    go_wp2_with (first | ((with_reducible refine gate_callee (f := 21) rfl ?_); refine goesL_ (some 8) rfl rfl Try.func21 (by kernel_rfl) rfl #[] rfl (by (try simp only [List.map_toArray, List.map_cons, List.map_nil]); first | done | rfl | (simp only [List.length_drop, List.length_take]; rfl)) ?_; (with_reducible refine (tartanlaw01_works.calls k  false _ A4.out).mono ?_); rintro e w21 ⟨rfl, hb⟩; refine ⟨_, rfl, ?_⟩; have n0_ := Aside0.mk (below_step (by repeat (first | (with_reducible first | exact HB.out | apply below_alloc | apply pw_below_drewN | apply below_drew1) | exact HB.out)) hb); clear HB; have HB := n0_; clear n0_; (try clear hb); (try clear hb2); (try clear hk); (try clear hi)))
    go_ret
    exact ⟨by first | rfl | (simp [errW_none, errW_some] <;> rfl) | (simp [*, errW_none, errW_some] <;> rfl), by repeat (first | (with_reducible first | exact HB.out | apply below_alloc | apply pw_below_drewN | apply below_drew1) | exact HB.out)⟩

/-- THE ONE PURE STATEMENT of tartanlaw01_QuoteApart: yours. -/
def tartanlaw01_QuoteApart.Pure : Prop := ∀ (a0 : ByteArray) (a1 : ByteArray) (a2 : Int), a0.size ≤ 140737488351232 → a1.size ≤ 140737488351232 → (Lit.int .u8 a2).wf = true → ∃ k, tartanlaw01_QuoteApart.f k a0 a1 a2 = some true
theorem tartanlaw01_QuoteApart.walk (P : tartanlaw01_QuoteApart.Pure) (a0 : ByteArray) (a1 : ByteArray) (a2 : Int) (w : World) (w0 : a0.size ≤ 140737488351232) (w1 : a1.size ≤ 140737488351232) (w2 : (Lit.int .u8 a2).wf = true) :
    Calls Try.prog 7 #[.string a0, .string a1, .int .u8 a2] w fun e w' => e = .returned (.bool true) ∧ Below w.heap.size w w' := by
  obtain ⟨k, h⟩ := P a0 a1 a2 w0 w1 w2
  refine (tartanlaw01_QuoteApart.calls k a0 a1 a2 true w h).mono ?_
  rintro e w' ⟨rfl, hd⟩
  exact ⟨rfl, hd⟩

end Go.Proofs.Ytggodagdfldndaa.Q
