/- Walks of Go functions of this seat against plain Lean functions, written by a program of this session (the kit's print, with hand-proved contracts for what it does not take). Lean checks them. -/
import Derived.Test.YtggodagdfldndaaM0
import Derived.Test.YtggodagdfldndaaM1
namespace Go.Proofs.Ytggodagdfldndaa.Q.L.M
open Go.RowKit Go.Proofs.YtggodagdfldndaaW.PrintWords Go.Proofs.YtggodagdfldndaaW.PrintLast Go.Proofs.YtggodagdfldndaaW.PrintMore
attribute [local go_sem] max2_int min2_int max_two min_two max_three min_three max_four min_four   -- for this text's walks alone
set_option linter.unusedVariables false
set_option linter.unusedSimpArgs false

/-! ### tartanlaw02_LexWrites: function 20 -/
def tartanlaw02_LexWrites.l0 : Nat → List ByteArray → Int → Bool → Bool → Int → Int → Option (Bool)
  | 0, _, _, _, _, _, _ => none
  | k + 1, x0, x1, x2, x7, x8, x9 => if x9 < (x0.length : Int) then (if x9 > 40 then (some x7) else (if 0 ≤ x9 then (if ((rdOf ByteArray.empty x0 x9).size : Int) > 500 then (some x7) else ((quote_Size.f k (rdOf ByteArray.empty x0 x9) x1).bind fun t151 => (tartanlaw02_LexWrites.l0 k x0 x1 x2 x7 (wrap64 (x8 + t151)) (wrap64 (x9 + 1))))) else (none))) else ((lex_Write.f k x0 x1 x2).bind fun t152 => (if x2 = true then (if x7 = true then ((tartanref02_Write.f k x0 x1 x2).bind fun t153 => (if t152.toList = t153.toList then (if (t152.size : Int) = (wrap64 ((wrap64 (x8 + (mx (wrap64 ((x0.length : Int) - 1)) 0))) + 2)) then ((lex_Break.f k t152 (wrap64 ((t152.size : Int) - 2))).bind fun t154 => (some (t154 == 2))) else (some false)) else (some false))) else (some false)) else (if x7 = true then ((tartanref02_Write.f k x0 x1 x2).bind fun t155 => (if t152.toList = t155.toList then (if (t152.size : Int) = (wrap64 ((wrap64 (x8 + (mx (wrap64 ((x0.length : Int) - 1)) 0))) + 1)) then ((lex_Break.f k t152 (wrap64 ((t152.size : Int) - 1))).bind fun t156 => (some (t156 == 1))) else (some false)) else (some false))) else (some false))))
def tartanlaw02_LexWrites.f (k : Nat) (l0 : List ByteArray) (a1 : Int) (a2 : Bool) : Option (Bool) := (tartanlaw02_works.f k).bind fun t148 => (if t148 = true then (tartanlaw02_LexWrites.l0 k l0 a1 a2 t148 0 0) else (some false))
theorem tartanlaw02_LexWrites.mono_l : ∀ k, (∀ y0 y1 y2 y3 y4 y5, LeO (tartanlaw02_LexWrites.l0 k y0 y1 y2 y3 y4 y5) (tartanlaw02_LexWrites.l0 (k + 1) y0 y1 y2 y3 y4 y5))
  | 0 => fun _ _ _ _ _ _ r h => by simp [tartanlaw02_LexWrites.l0] at h
  | k + 1 => by
    have ih0 := tartanlaw02_LexWrites.mono_l k
    · intro y0 y1 y2 y3 y4 y5
      unfold tartanlaw02_LexWrites.l0
      repeat' first
      | (with_reducible exact ih0 _ _ _ _ _ _)
      | (with_reducible exact lex_Break.mono _ _ _)
      | (with_reducible exact lex_Write.mono _ _ _ _)
      | (with_reducible exact quote_Size.mono _ _ _)
      | (with_reducible exact tartanlaw02_works.mono _)
      | (with_reducible exact tartanref02_Write.mono _ _ _ _)
      | (with_reducible exact LeO.refl _)
      | (with_reducible exact LeO.none _)
      | (with_reducible refine LeO.ite ?_ ?_)
      | (with_reducible refine LeO.bind ?_ (fun _ => ?_))
      | exact ih0 _ _ _ _ _ _
      | exact lex_Break.mono _ _ _
      | exact lex_Write.mono _ _ _ _
      | exact quote_Size.mono _ _ _
      | exact tartanlaw02_works.mono _
      | exact tartanref02_Write.mono _ _ _ _
      | exact LeO.none _
      | refine LeO.ite ?_ ?_
      | refine LeO.bind ?_ (fun _ => ?_)
theorem tartanlaw02_LexWrites.mono : ∀ a0 a1 a2 k, LeO (tartanlaw02_LexWrites.f k a0 a1 a2) (tartanlaw02_LexWrites.f (k + 1) a0 a1 a2) := by
  intro a0 a1 a2 k
  have ih0 := tartanlaw02_LexWrites.mono_l k
  unfold tartanlaw02_LexWrites.f
  repeat' first
      | (with_reducible exact ih0 _ _ _ _ _ _)
      | (with_reducible exact lex_Break.mono _ _ _)
      | (with_reducible exact lex_Write.mono _ _ _ _)
      | (with_reducible exact quote_Size.mono _ _ _)
      | (with_reducible exact tartanlaw02_works.mono _)
      | (with_reducible exact tartanref02_Write.mono _ _ _ _)
      | (with_reducible exact LeO.refl _)
      | (with_reducible exact LeO.none _)
      | (with_reducible refine LeO.ite ?_ ?_)
      | (with_reducible refine LeO.bind ?_ (fun _ => ?_))
      | exact ih0 _ _ _ _ _ _
      | exact lex_Break.mono _ _ _
      | exact lex_Write.mono _ _ _ _
      | exact quote_Size.mono _ _ _
      | exact tartanlaw02_works.mono _
      | exact tartanref02_Write.mono _ _ _ _
      | exact LeO.none _
      | refine LeO.ite ?_ ?_
      | refine LeO.bind ?_ (fun _ => ?_)
set_option maxHeartbeats 8000000 in
set_option maxRecDepth 100000 in
theorem tartanlaw02_LexWrites.calls (k : Nat) (A0 : Option Addr) (c0 : Nat) (l0 : List ByteArray) (a1 : Int) (a2 : Bool) (r : Bool) (w : World) (hr0 : Kd.C Kd.string w A0 l0.length l0) (hc0 : l0.length ≤ c0) (h : tartanlaw02_LexWrites.f k l0 a1 a2 = some r) :
    Calls Try.prog 20 #[.slice A0 l0.length c0, .int .u8 a1, .bool a2] w fun e w' => e = .returned (.bool r) ∧ Below w.heap.size w w' := by
  have HR0 := Aside0.mk hr0
  have HC0 := Aside0.mk hc0
  clear hr0 hc0
  have HB := Aside0.mk (Below.refl w.heap.size w)
  have H : ((tartanlaw02_works.f k).bind fun t148 => (if t148 = true then (tartanlaw02_LexWrites.l0 k l0 a1 a2 t148 0 0) else (some false))) = some r := h
  clear h
  replace H := Option.bind_eq_some_iff.mp H
  obtain ⟨t148, A40, H⟩ := H
  replace H : (if t148 = true then (tartanlaw02_LexWrites.l0 k l0 a1 a2 t148 0 0) else (some false)) = some r := H
  have A4 := Aside0.mk A40
  clear A40
  by_cases c5 : t148 = true
  · subst c5
    have H1 : (tartanlaw02_LexWrites.l0 k l0 a1 a2 true 0 0) = some r := by rw [if_pos rfl] at H; exact H
    clear H
    have H := H1
    clear H1
    have H' := Aside0.mk H
    clear H
    go_enter Try.func20, Try.ntmps20
    go_wp2_with (first | ((with_reducible refine gate_callee (f := 33) rfl ?_); refine goesL_ (some 12) rfl rfl Try.func33 (by kernel_rfl) rfl #[] rfl (by (try simp only [List.map_toArray, List.map_cons, List.map_nil]); first | done | rfl | (simp only [List.length_drop, List.length_take]; rfl)) ?_; (with_reducible refine (tartanlaw02_works.calls k  true _ A4.out).mono ?_); rintro e w6 ⟨rfl, hb⟩; refine ⟨_, rfl, ?_⟩; have n0_ := Aside0.mk (below_step (by repeat (first | (with_reducible first | exact HB.out | apply below_alloc | apply pw_below_drewN | apply below_drew1) | exact HB.out)) hb); clear HB; have HB := n0_; clear n0_; (try clear hb); (try clear hb2); (try clear hk); (try clear hi)))
    go_loopg [8, 9] k (fun kq v8 v9 w' => ∃ (x8_1 : Int) (x9_1 : Int), v8 = .int .i64 x8_1 ∧ v9 = .int .i64 x9_1 ∧ Aside0 (tartanlaw02_LexWrites.l0 kq l0 a1 a2 true x8_1 x9_1 = some r) ∧ Aside0 (kq ≤ k) ∧ Aside0 (Below w.heap.size w w'))
    case atStart => exact ⟨(0), (0), (by first | rfl | (simp; done) | (simp [*]; done)), (by first | rfl | (simp; done) | (simp [*]; done)), H', ⟨Nat.le_refl _⟩, ⟨by repeat (first | (with_reducible first | exact HB.out | apply below_alloc | apply pw_below_drewN | apply below_drew1) | exact HB.out)⟩⟩
    case round =>
      clear H'
      try clear c2
      try clear p2
      try clear c3
      try clear c5
      obtain ⟨x8_1, x9_1, rfl, rfl, HA, HK1, HB⟩ := hrel
      cases gk with
      | zero => exact absurd HA.out (by simp [tartanlaw02_LexWrites.l0])
      | succ k1 =>
        have H := HA.out
        clear HA
        simp only [tartanlaw02_LexWrites.l0] at H
        by_cases c7 : x9_1 < (l0.length : Int)
        · rw [if_pos c7] at H
          have c7b0 : decide (x9_1 < (l0.length : Int)) = true := decide_eq_true c7
          clear c7
          by_cases c8 : x9_1 > 40
          · rw [if_pos c8] at H
            have c8b0 : decide (40 < x9_1) = true := decide_eq_true c8
            clear c8
            obtain rfl := Option.some.inj H
            go_wp2
            go_ret
            exact ⟨by first | rfl | (simp [errW_none, errW_some] <;> rfl) | (simp [*, errW_none, errW_some] <;> rfl), by repeat (first | (with_reducible first | exact HB.out | apply below_alloc | apply pw_below_drewN | apply below_drew1) | exact HB.out)⟩
          · rw [if_neg c8] at H
            have c8b0 : decide (40 < x9_1) = false := decide_eq_false c8
            clear c8
            by_cases c9 : 0 ≤ x9_1
            · rw [if_pos c9] at H
              have c9b0 : decide (0 ≤ x9_1) = true := decide_eq_true c9
              clear c9
              by_cases c10 : ((rdOf ByteArray.empty l0 x9_1).size : Int) > 500
              · rw [if_pos c10] at H
                have c10b0 : decide (500 < ((rdOf ByteArray.empty l0 x9_1).size : Int)) = true := decide_eq_true c10
                have c10b1 : decide (500 < (rdOf ByteArray.empty l0 x9_1).size) = true := decide_eq_true (by omega)
                clear c10
                obtain rfl := Option.some.inj H
                have p149 : 0 ≤ (x9_1 : Int) := of_decide_eq_true (by first | (with_reducible assumption) | assumption)
                have q149 : x9_1 < (l0.length : Int) := of_decide_eq_true (by first | (with_reducible assumption) | assumption)
                obtain ⟨ad149, e149, hx149_0⟩ := Kd.at_string HR0.out x9_1 p149 q149
                cases e149
                replace hx149_0 := (HB.out.cell (World.block_lt_of_cell? w _ hx149_0)).trans hx149_0
                replace p149 := eq_true p149
                replace q149 := eq_true q149
                go_wp2
                go_ret
                exact ⟨by first | rfl | (simp [errW_none, errW_some] <;> rfl) | (simp [*, errW_none, errW_some] <;> rfl), by repeat (first | (with_reducible first | exact HB.out | apply below_alloc | apply pw_below_drewN | apply below_drew1) | exact HB.out)⟩
              · rw [if_neg c10] at H
                have c10b0 : decide (500 < ((rdOf ByteArray.empty l0 x9_1).size : Int)) = false := decide_eq_false c10
                have c10b1 : decide (500 < (rdOf ByteArray.empty l0 x9_1).size) = false := decide_eq_false (by omega)
                clear c10
                replace H := Option.bind_eq_some_iff.mp H
                obtain ⟨t151, A110, H⟩ := H
                replace H : (tartanlaw02_LexWrites.l0 k1 l0 a1 a2 true (wrap64 (x8_1 + t151)) (wrap64 (x9_1 + 1))) = some r := H
                have A11 := Aside0.mk A110
                clear A110
                have H' := Aside0.mk H
                clear H
                have p149 : 0 ≤ (x9_1 : Int) := of_decide_eq_true (by first | (with_reducible assumption) | assumption)
                have q149 : x9_1 < (l0.length : Int) := of_decide_eq_true (by first | (with_reducible assumption) | assumption)
                obtain ⟨ad149, e149, hx149_0⟩ := Kd.at_string HR0.out x9_1 p149 q149
                cases e149
                replace hx149_0 := (HB.out.cell (World.block_lt_of_cell? w _ hx149_0)).trans hx149_0
                replace p149 := eq_true p149
                replace q149 := eq_true q149
                have p150 : 0 ≤ (x9_1 : Int) := of_decide_eq_true (by first | (with_reducible assumption) | assumption)
                have q150 : x9_1 < (l0.length : Int) := of_decide_eq_true (by first | (with_reducible assumption) | assumption)
                obtain ⟨ad150, e150, hx150_0⟩ := Kd.at_string HR0.out x9_1 p150 q150
                obtain rfl : ad149 = ad150 := (by injection e150)
                replace hx150_0 := (HB.out.cell (World.block_lt_of_cell? w _ hx150_0)).trans hx150_0
                replace p150 := eq_true p150
                replace q150 := eq_true q150
                go_wp2_with (first | ((with_reducible refine gate_callee (f := 26) rfl ?_); refine goesL_ (some 38) rfl rfl Try.func26 (by kernel_rfl) rfl #[.string (rdOf ByteArray.empty l0 x9_1), .int .u8 a1] rfl (by (try simp only [List.map_toArray, List.map_cons, List.map_nil]); first | done | rfl | (simp only [List.length_drop, List.length_take]; rfl)) ?_; (with_reducible refine (quote_Size.calls k1 (rdOf ByteArray.empty l0 x9_1) a1 t151 _ A11.out).mono ?_); rintro e w12 ⟨rfl, hb⟩; refine ⟨_, rfl, ?_⟩; have n0_ := Aside0.mk (below_step (by repeat (first | (with_reducible first | exact HB.out | apply below_alloc | apply pw_below_drewN | apply below_drew1) | exact HB.out)) hb); clear HB; have HB := n0_; clear n0_; (try clear hb); (try clear hb2); (try clear hk); (try clear hi)))
                go_roundg k1
                case measure => have := HK1.out; omega
                case rel => exact ⟨(wrap64 (x8_1 + t151)), (wrap64 (x9_1 + 1)), (by first | rfl | (simp; done) | (simp [*]; done)), (by first | rfl | (simp; done) | (simp [*]; done)), H', ⟨by have := HK1.out; omega⟩, ⟨by repeat (first | (with_reducible first | exact HB.out | apply below_alloc | apply pw_below_drewN | apply below_drew1) | exact HB.out)⟩⟩
            · rw [if_neg c9] at H
              exact absurd H (by simp)
        · rw [if_neg c7] at H
          have c7b0 : decide (x9_1 < (l0.length : Int)) = false := decide_eq_false c7
          clear c7
          replace H := Option.bind_eq_some_iff.mp H
          obtain ⟨t152, A130, H⟩ := H
          replace H : (if a2 = true then (if true = true then ((tartanref02_Write.f k1 l0 a1 a2).bind fun t153 => (if t152.toList = t153.toList then (if (t152.size : Int) = (wrap64 ((wrap64 (x8_1 + (mx (wrap64 ((l0.length : Int) - 1)) 0))) + 2)) then ((lex_Break.f k1 t152 (wrap64 ((t152.size : Int) - 2))).bind fun t154 => (some (t154 == 2))) else (some false)) else (some false))) else (some false)) else (if true = true then ((tartanref02_Write.f k1 l0 a1 a2).bind fun t155 => (if t152.toList = t155.toList then (if (t152.size : Int) = (wrap64 ((wrap64 (x8_1 + (mx (wrap64 ((l0.length : Int) - 1)) 0))) + 1)) then ((lex_Break.f k1 t152 (wrap64 ((t152.size : Int) - 1))).bind fun t156 => (some (t156 == 1))) else (some false)) else (some false))) else (some false))) = some r := H
          have A13 := Aside0.mk A130
          clear A130
          by_cases c14 : a2 = true
          · subst c14
            have H1 : (if true = true then ((tartanref02_Write.f k1 l0 a1 true).bind fun t153 => (if t152.toList = t153.toList then (if (t152.size : Int) = (wrap64 ((wrap64 (x8_1 + (mx (wrap64 ((l0.length : Int) - 1)) 0))) + 2)) then ((lex_Break.f k1 t152 (wrap64 ((t152.size : Int) - 2))).bind fun t154 => (some (t154 == 2))) else (some false)) else (some false))) else (some false)) = some r := by rw [if_pos rfl] at H; exact H
            clear H
            have H := H1
            clear H1
            have H1 : ((tartanref02_Write.f k1 l0 a1 true).bind fun t153 => (if t152.toList = t153.toList then (if (t152.size : Int) = (wrap64 ((wrap64 (x8_1 + (mx (wrap64 ((l0.length : Int) - 1)) 0))) + 2)) then ((lex_Break.f k1 t152 (wrap64 ((t152.size : Int) - 2))).bind fun t154 => (some (t154 == 2))) else (some false)) else (some false))) = some r := by first | (rw [if_pos rfl] at H; exact H) | (rw [if_pos trivial] at H; exact H) | (rw [if_neg not_false] at H; exact H) | simpa using H
            clear H
            have H := H1
            clear H1
            replace H := Option.bind_eq_some_iff.mp H
            obtain ⟨t153, A150, H⟩ := H
            replace H : (if t152.toList = t153.toList then (if (t152.size : Int) = (wrap64 ((wrap64 (x8_1 + (mx (wrap64 ((l0.length : Int) - 1)) 0))) + 2)) then ((lex_Break.f k1 t152 (wrap64 ((t152.size : Int) - 2))).bind fun t154 => (some (t154 == 2))) else (some false)) else (some false)) = some r := H
            have A15 := Aside0.mk A150
            clear A150
            by_cases c16 : t152.toList = t153.toList
            · rw [if_pos c16] at H
              have c16b0 : (t152.toList == t153.toList) = true := beq_iff_eq.mpr c16
              have c16b1 : (t152.toList != t153.toList) = false := bne_eq_false_iff_eq.mpr c16
              clear c16
              obtain ⟨ji17, hji17⟩ : ∃ j_ : Int, (mx (wrap64 ((l0.length : Int) - 1)) 0) = j_ := ⟨_, rfl⟩
              replace H : (if (t152.size : Int) = (wrap64 ((wrap64 (x8_1 + (ji17))) + 2)) then ((lex_Break.f k1 t152 (wrap64 ((t152.size : Int) - 2))).bind fun t154 => (some (t154 == 2))) else (some false)) = some r := by first | (rw [hji17] at H; exact H) | (simp only [hji17] at H ⊢; exact H)
              (try rw [hji17] at A13)
              (try rw [hji17] at A15)
              have hji17_ : (if (wrap64 ((l0.length : Int) - 1)) < 0 then 0 else (wrap64 ((l0.length : Int) - 1))) = ji17 := hji17
              by_cases c18 : (t152.size : Int) = (wrap64 ((wrap64 (x8_1 + (ji17))) + 2))
              · rw [if_pos c18] at H
                have c18b0 : ((t152.size : Int) == (wrap64 ((wrap64 (x8_1 + (ji17))) + 2))) = true := beq_iff_eq.mpr c18
                have c18b1 : ((t152.size : Int) != (wrap64 ((wrap64 (x8_1 + (ji17))) + 2))) = false := bne_eq_false_iff_eq.mpr c18
                clear c18
                replace H := Option.bind_eq_some_iff.mp H
                obtain ⟨t154, A190, H⟩ := H
                replace H : (some (t154 == 2)) = some r := H
                have A19 := Aside0.mk A190
                clear A190
                obtain rfl := Option.some.inj H
                go_wp2_with (first | ((with_reducible refine gate_callee (f := 38) rfl ?_); refine goesL_ (some 43) rfl rfl Try.func38 (by kernel_rfl) rfl #[.slice A0 l0.length c0, .int .u8 a1, .bool true] rfl (by (try simp only [List.map_toArray, List.map_cons, List.map_nil]); first | done | rfl | (simp only [List.length_drop, List.length_take]; rfl)) ?_; (with_reducible refine (lex_Write.calls k1 _ _ l0 a1 true t152 _ ?side1 ?side2 A13.out).mono ?_); (case side1 => repeat (first | exact (Kd.C_below HR0.out HB.out) | (with_reducible refine Kd.C_alloc ?_ _) | (with_reducible refine Kd.C_drewN ?_ _) | (with_reducible refine Kd.C_drew ?_))); (case side2 => exact HC0.out); rintro e w20 ⟨rfl, hb⟩; refine ⟨_, rfl, ?_⟩; have n0_ := Aside0.mk (below_step (by repeat (first | (with_reducible first | exact HB.out | apply below_alloc | apply pw_below_drewN | apply below_drew1) | exact HB.out)) hb); clear HB; have HB := n0_; clear n0_; (try clear hb); (try clear hb2); (try clear hk); (try clear hi)) | (go_at_call 47; (with_reducible refine (tartanref02_Write.calls k1 _ _ l0 a1 true t153 _ ?side1 ?side2 A15.out).mono ?_); (case side1 => repeat (first | exact (Kd.C_below HR0.out HB.out) | (with_reducible refine Kd.C_alloc ?_ _) | (with_reducible refine Kd.C_drewN ?_ _) | (with_reducible refine Kd.C_drew ?_))); (case side2 => exact HC0.out); rintro e w21 ⟨rfl, hb⟩; have n0_ := Aside0.mk (below_step (by repeat (first | (with_reducible first | exact HB.out | apply below_alloc | apply pw_below_drewN | apply below_drew1) | exact HB.out)) hb); clear HB; have HB := n0_; clear n0_; (try clear hb); (try clear hb2); (try clear hk); (try clear hi)) | (go_at_call 36; (with_reducible refine (lex_Break.calls k1 t152 (wrap64 ((t152.size : Int) - 2)) t154 _ A19.out).mono ?_); rintro e w' ⟨rfl, ⟨nd, rfl⟩⟩))
                go_ret
                exact ⟨by first | rfl | (simp [errW_none, errW_some] <;> rfl) | (simp only [← hji17]; first | rfl | (simp [errW_none, errW_some] <;> rfl)) | (simp [*, errW_none, errW_some] <;> rfl), by repeat (first | (with_reducible first | exact HB.out | apply below_alloc | apply pw_below_drewN | apply below_drew1) | exact HB.out)⟩
              · rw [if_neg c18] at H
                have c18b0 : ((t152.size : Int) == (wrap64 ((wrap64 (x8_1 + (ji17))) + 2))) = false := beq_eq_false_iff_ne.mpr c18
                have c18b1 : ((t152.size : Int) != (wrap64 ((wrap64 (x8_1 + (ji17))) + 2))) = true := bne_iff_ne.mpr c18
                obtain rfl := Option.some.inj H
                go_wp2_with (first | ((with_reducible refine gate_callee (f := 38) rfl ?_); refine goesL_ (some 43) rfl rfl Try.func38 (by kernel_rfl) rfl #[.slice A0 l0.length c0, .int .u8 a1, .bool true] rfl (by (try simp only [List.map_toArray, List.map_cons, List.map_nil]); first | done | rfl | (simp only [List.length_drop, List.length_take]; rfl)) ?_; (with_reducible refine (lex_Write.calls k1 _ _ l0 a1 true t152 _ ?side1 ?side2 A13.out).mono ?_); (case side1 => repeat (first | exact (Kd.C_below HR0.out HB.out) | (with_reducible refine Kd.C_alloc ?_ _) | (with_reducible refine Kd.C_drewN ?_ _) | (with_reducible refine Kd.C_drew ?_))); (case side2 => exact HC0.out); rintro e w22 ⟨rfl, hb⟩; refine ⟨_, rfl, ?_⟩; have n0_ := Aside0.mk (below_step (by repeat (first | (with_reducible first | exact HB.out | apply below_alloc | apply pw_below_drewN | apply below_drew1) | exact HB.out)) hb); clear HB; have HB := n0_; clear n0_; (try clear hb); (try clear hb2); (try clear hk); (try clear hi)) | (go_at_call 47; (with_reducible refine (tartanref02_Write.calls k1 _ _ l0 a1 true t153 _ ?side1 ?side2 A15.out).mono ?_); (case side1 => repeat (first | exact (Kd.C_below HR0.out HB.out) | (with_reducible refine Kd.C_alloc ?_ _) | (with_reducible refine Kd.C_drewN ?_ _) | (with_reducible refine Kd.C_drew ?_))); (case side2 => exact HC0.out); rintro e w23 ⟨rfl, hb⟩; have n0_ := Aside0.mk (below_step (by repeat (first | (with_reducible first | exact HB.out | apply below_alloc | apply pw_below_drewN | apply below_drew1) | exact HB.out)) hb); clear HB; have HB := n0_; clear n0_; (try clear hb); (try clear hb2); (try clear hk); (try clear hi)))
                go_ret
                exact ⟨by first | rfl | (simp [errW_none, errW_some] <;> rfl) | (simp only [← hji17]; first | rfl | (simp [errW_none, errW_some] <;> rfl)) | (simp [*, errW_none, errW_some] <;> rfl), by repeat (first | (with_reducible first | exact HB.out | apply below_alloc | apply pw_below_drewN | apply below_drew1) | exact HB.out)⟩
            · rw [if_neg c16] at H
              have c16b0 : (t152.toList == t153.toList) = false := beq_eq_false_iff_ne.mpr c16
              have c16b1 : (t152.toList != t153.toList) = true := bne_iff_ne.mpr c16
              obtain rfl := Option.some.inj H
              go_wp2_with (first | ((with_reducible refine gate_callee (f := 38) rfl ?_); refine goesL_ (some 43) rfl rfl Try.func38 (by kernel_rfl) rfl #[.slice A0 l0.length c0, .int .u8 a1, .bool true] rfl (by (try simp only [List.map_toArray, List.map_cons, List.map_nil]); first | done | rfl | (simp only [List.length_drop, List.length_take]; rfl)) ?_; (with_reducible refine (lex_Write.calls k1 _ _ l0 a1 true t152 _ ?side1 ?side2 A13.out).mono ?_); (case side1 => repeat (first | exact (Kd.C_below HR0.out HB.out) | (with_reducible refine Kd.C_alloc ?_ _) | (with_reducible refine Kd.C_drewN ?_ _) | (with_reducible refine Kd.C_drew ?_))); (case side2 => exact HC0.out); rintro e w24 ⟨rfl, hb⟩; refine ⟨_, rfl, ?_⟩; have n0_ := Aside0.mk (below_step (by repeat (first | (with_reducible first | exact HB.out | apply below_alloc | apply pw_below_drewN | apply below_drew1) | exact HB.out)) hb); clear HB; have HB := n0_; clear n0_; (try clear hb); (try clear hb2); (try clear hk); (try clear hi)) | (go_at_call 47; (with_reducible refine (tartanref02_Write.calls k1 _ _ l0 a1 true t153 _ ?side1 ?side2 A15.out).mono ?_); (case side1 => repeat (first | exact (Kd.C_below HR0.out HB.out) | (with_reducible refine Kd.C_alloc ?_ _) | (with_reducible refine Kd.C_drewN ?_ _) | (with_reducible refine Kd.C_drew ?_))); (case side2 => exact HC0.out); rintro e w25 ⟨rfl, hb⟩; have n0_ := Aside0.mk (below_step (by repeat (first | (with_reducible first | exact HB.out | apply below_alloc | apply pw_below_drewN | apply below_drew1) | exact HB.out)) hb); clear HB; have HB := n0_; clear n0_; (try clear hb); (try clear hb2); (try clear hk); (try clear hi)))
              go_ret
              exact ⟨by first | rfl | (simp [errW_none, errW_some] <;> rfl) | (simp [*, errW_none, errW_some] <;> rfl), by repeat (first | (with_reducible first | exact HB.out | apply below_alloc | apply pw_below_drewN | apply below_drew1) | exact HB.out)⟩
          · replace c14 := Bool.eq_false_iff.mpr c14
            subst c14
            have H1 : (if true = true then ((tartanref02_Write.f k1 l0 a1 false).bind fun t155 => (if t152.toList = t155.toList then (if (t152.size : Int) = (wrap64 ((wrap64 (x8_1 + (mx (wrap64 ((l0.length : Int) - 1)) 0))) + 1)) then ((lex_Break.f k1 t152 (wrap64 ((t152.size : Int) - 1))).bind fun t156 => (some (t156 == 1))) else (some false)) else (some false))) else (some false)) = some r := by rw [if_neg (show ¬ (false = true) by decide)] at H; exact H
            clear H
            have H := H1
            clear H1
            have H1 : ((tartanref02_Write.f k1 l0 a1 false).bind fun t155 => (if t152.toList = t155.toList then (if (t152.size : Int) = (wrap64 ((wrap64 (x8_1 + (mx (wrap64 ((l0.length : Int) - 1)) 0))) + 1)) then ((lex_Break.f k1 t152 (wrap64 ((t152.size : Int) - 1))).bind fun t156 => (some (t156 == 1))) else (some false)) else (some false))) = some r := by first | (rw [if_pos rfl] at H; exact H) | (rw [if_pos trivial] at H; exact H) | (rw [if_neg not_false] at H; exact H) | simpa using H
            clear H
            have H := H1
            clear H1
            replace H := Option.bind_eq_some_iff.mp H
            obtain ⟨t155, A260, H⟩ := H
            replace H : (if t152.toList = t155.toList then (if (t152.size : Int) = (wrap64 ((wrap64 (x8_1 + (mx (wrap64 ((l0.length : Int) - 1)) 0))) + 1)) then ((lex_Break.f k1 t152 (wrap64 ((t152.size : Int) - 1))).bind fun t156 => (some (t156 == 1))) else (some false)) else (some false)) = some r := H
            have A26 := Aside0.mk A260
            clear A260
            by_cases c27 : t152.toList = t155.toList
            · rw [if_pos c27] at H
              have c27b0 : (t152.toList == t155.toList) = true := beq_iff_eq.mpr c27
              have c27b1 : (t152.toList != t155.toList) = false := bne_eq_false_iff_eq.mpr c27
              clear c27
              obtain ⟨ji28, hji28⟩ : ∃ j_ : Int, (mx (wrap64 ((l0.length : Int) - 1)) 0) = j_ := ⟨_, rfl⟩
              replace H : (if (t152.size : Int) = (wrap64 ((wrap64 (x8_1 + (ji28))) + 1)) then ((lex_Break.f k1 t152 (wrap64 ((t152.size : Int) - 1))).bind fun t156 => (some (t156 == 1))) else (some false)) = some r := by first | (rw [hji28] at H; exact H) | (simp only [hji28] at H ⊢; exact H)
              (try rw [hji28] at A13)
              (try rw [hji28] at A26)
              have hji28_ : (if (wrap64 ((l0.length : Int) - 1)) < 0 then 0 else (wrap64 ((l0.length : Int) - 1))) = ji28 := hji28
              by_cases c29 : (t152.size : Int) = (wrap64 ((wrap64 (x8_1 + (ji28))) + 1))
              · rw [if_pos c29] at H
                have c29b0 : ((t152.size : Int) == (wrap64 ((wrap64 (x8_1 + (ji28))) + 1))) = true := beq_iff_eq.mpr c29
                have c29b1 : ((t152.size : Int) != (wrap64 ((wrap64 (x8_1 + (ji28))) + 1))) = false := bne_eq_false_iff_eq.mpr c29
                clear c29
                replace H := Option.bind_eq_some_iff.mp H
                obtain ⟨t156, A300, H⟩ := H
                replace H : (some (t156 == 1)) = some r := H
                have A30 := Aside0.mk A300
                clear A300
                obtain rfl := Option.some.inj H
                go_wp2_with (first | ((with_reducible refine gate_callee (f := 38) rfl ?_); refine goesL_ (some 43) rfl rfl Try.func38 (by kernel_rfl) rfl #[.slice A0 l0.length c0, .int .u8 a1, .bool false] rfl (by (try simp only [List.map_toArray, List.map_cons, List.map_nil]); first | done | rfl | (simp only [List.length_drop, List.length_take]; rfl)) ?_; (with_reducible refine (lex_Write.calls k1 _ _ l0 a1 false t152 _ ?side1 ?side2 A13.out).mono ?_); (case side1 => repeat (first | exact (Kd.C_below HR0.out HB.out) | (with_reducible refine Kd.C_alloc ?_ _) | (with_reducible refine Kd.C_drewN ?_ _) | (with_reducible refine Kd.C_drew ?_))); (case side2 => exact HC0.out); rintro e w31 ⟨rfl, hb⟩; refine ⟨_, rfl, ?_⟩; have n0_ := Aside0.mk (below_step (by repeat (first | (with_reducible first | exact HB.out | apply below_alloc | apply pw_below_drewN | apply below_drew1) | exact HB.out)) hb); clear HB; have HB := n0_; clear n0_; (try clear hb); (try clear hb2); (try clear hk); (try clear hi)) | (go_at_call 47; (with_reducible refine (tartanref02_Write.calls k1 _ _ l0 a1 false t155 _ ?side1 ?side2 A26.out).mono ?_); (case side1 => repeat (first | exact (Kd.C_below HR0.out HB.out) | (with_reducible refine Kd.C_alloc ?_ _) | (with_reducible refine Kd.C_drewN ?_ _) | (with_reducible refine Kd.C_drew ?_))); (case side2 => exact HC0.out); rintro e w32 ⟨rfl, hb⟩; have n0_ := Aside0.mk (below_step (by repeat (first | (with_reducible first | exact HB.out | apply below_alloc | apply pw_below_drewN | apply below_drew1) | exact HB.out)) hb); clear HB; have HB := n0_; clear n0_; (try clear hb); (try clear hb2); (try clear hk); (try clear hi)) | (go_at_call 36; (with_reducible refine (lex_Break.calls k1 t152 (wrap64 ((t152.size : Int) - 1)) t156 _ A30.out).mono ?_); rintro e w' ⟨rfl, ⟨nd, rfl⟩⟩))
                go_ret
                exact ⟨by first | rfl | (simp [errW_none, errW_some] <;> rfl) | (simp only [← hji28]; first | rfl | (simp [errW_none, errW_some] <;> rfl)) | (simp [*, errW_none, errW_some] <;> rfl), by repeat (first | (with_reducible first | exact HB.out | apply below_alloc | apply pw_below_drewN | apply below_drew1) | exact HB.out)⟩
              · rw [if_neg c29] at H
                have c29b0 : ((t152.size : Int) == (wrap64 ((wrap64 (x8_1 + (ji28))) + 1))) = false := beq_eq_false_iff_ne.mpr c29
                have c29b1 : ((t152.size : Int) != (wrap64 ((wrap64 (x8_1 + (ji28))) + 1))) = true := bne_iff_ne.mpr c29
                obtain rfl := Option.some.inj H
                go_wp2_with (first | ((with_reducible refine gate_callee (f := 38) rfl ?_); refine goesL_ (some 43) rfl rfl Try.func38 (by kernel_rfl) rfl #[.slice A0 l0.length c0, .int .u8 a1, .bool false] rfl (by (try simp only [List.map_toArray, List.map_cons, List.map_nil]); first | done | rfl | (simp only [List.length_drop, List.length_take]; rfl)) ?_; (with_reducible refine (lex_Write.calls k1 _ _ l0 a1 false t152 _ ?side1 ?side2 A13.out).mono ?_); (case side1 => repeat (first | exact (Kd.C_below HR0.out HB.out) | (with_reducible refine Kd.C_alloc ?_ _) | (with_reducible refine Kd.C_drewN ?_ _) | (with_reducible refine Kd.C_drew ?_))); (case side2 => exact HC0.out); rintro e w33 ⟨rfl, hb⟩; refine ⟨_, rfl, ?_⟩; have n0_ := Aside0.mk (below_step (by repeat (first | (with_reducible first | exact HB.out | apply below_alloc | apply pw_below_drewN | apply below_drew1) | exact HB.out)) hb); clear HB; have HB := n0_; clear n0_; (try clear hb); (try clear hb2); (try clear hk); (try clear hi)) | (go_at_call 47; (with_reducible refine (tartanref02_Write.calls k1 _ _ l0 a1 false t155 _ ?side1 ?side2 A26.out).mono ?_); (case side1 => repeat (first | exact (Kd.C_below HR0.out HB.out) | (with_reducible refine Kd.C_alloc ?_ _) | (with_reducible refine Kd.C_drewN ?_ _) | (with_reducible refine Kd.C_drew ?_))); (case side2 => exact HC0.out); rintro e w34 ⟨rfl, hb⟩; have n0_ := Aside0.mk (below_step (by repeat (first | (with_reducible first | exact HB.out | apply below_alloc | apply pw_below_drewN | apply below_drew1) | exact HB.out)) hb); clear HB; have HB := n0_; clear n0_; (try clear hb); (try clear hb2); (try clear hk); (try clear hi)))
                go_ret
                exact ⟨by first | rfl | (simp [errW_none, errW_some] <;> rfl) | (simp only [← hji28]; first | rfl | (simp [errW_none, errW_some] <;> rfl)) | (simp [*, errW_none, errW_some] <;> rfl), by repeat (first | (with_reducible first | exact HB.out | apply below_alloc | apply pw_below_drewN | apply below_drew1) | exact HB.out)⟩
            · rw [if_neg c27] at H
              have c27b0 : (t152.toList == t155.toList) = false := beq_eq_false_iff_ne.mpr c27
              have c27b1 : (t152.toList != t155.toList) = true := bne_iff_ne.mpr c27
              obtain rfl := Option.some.inj H
              go_wp2_with (first | ((with_reducible refine gate_callee (f := 38) rfl ?_); refine goesL_ (some 43) rfl rfl Try.func38 (by kernel_rfl) rfl #[.slice A0 l0.length c0, .int .u8 a1, .bool false] rfl (by (try simp only [List.map_toArray, List.map_cons, List.map_nil]); first | done | rfl | (simp only [List.length_drop, List.length_take]; rfl)) ?_; (with_reducible refine (lex_Write.calls k1 _ _ l0 a1 false t152 _ ?side1 ?side2 A13.out).mono ?_); (case side1 => repeat (first | exact (Kd.C_below HR0.out HB.out) | (with_reducible refine Kd.C_alloc ?_ _) | (with_reducible refine Kd.C_drewN ?_ _) | (with_reducible refine Kd.C_drew ?_))); (case side2 => exact HC0.out); rintro e w35 ⟨rfl, hb⟩; refine ⟨_, rfl, ?_⟩; have n0_ := Aside0.mk (below_step (by repeat (first | (with_reducible first | exact HB.out | apply below_alloc | apply pw_below_drewN | apply below_drew1) | exact HB.out)) hb); clear HB; have HB := n0_; clear n0_; (try clear hb); (try clear hb2); (try clear hk); (try clear hi)) | (go_at_call 47; (with_reducible refine (tartanref02_Write.calls k1 _ _ l0 a1 false t155 _ ?side1 ?side2 A26.out).mono ?_); (case side1 => repeat (first | exact (Kd.C_below HR0.out HB.out) | (with_reducible refine Kd.C_alloc ?_ _) | (with_reducible refine Kd.C_drewN ?_ _) | (with_reducible refine Kd.C_drew ?_))); (case side2 => exact HC0.out); rintro e w36 ⟨rfl, hb⟩; have n0_ := Aside0.mk (below_step (by repeat (first | (with_reducible first | exact HB.out | apply below_alloc | apply pw_below_drewN | apply below_drew1) | exact HB.out)) hb); clear HB; have HB := n0_; clear n0_; (try clear hb); (try clear hb2); (try clear hk); (try clear hi)))
              go_ret
              exact ⟨by first | rfl | (simp [errW_none, errW_some] <;> rfl) | (simp [*, errW_none, errW_some] <;> rfl), by repeat (first | (with_reducible first | exact HB.out | apply below_alloc | apply pw_below_drewN | apply below_drew1) | exact HB.out)⟩
  · replace c5 := Bool.eq_false_iff.mpr c5
    subst c5
    have H1 : (some false) = some r := by rw [if_neg (show ¬ (false = true) by decide)] at H; exact H
    clear H
    have H := H1
    clear H1
    obtain rfl := Option.some.inj H
    go_enter Try.func20, Try.ntmps20
    go_wp2_with (first | ((with_reducible refine gate_callee (f := 33) rfl ?_); refine goesL_ (some 12) rfl rfl Try.func33 (by kernel_rfl) rfl #[] rfl (by (try simp only [List.map_toArray, List.map_cons, List.map_nil]); first | done | rfl | (simp only [List.length_drop, List.length_take]; rfl)) ?_; (with_reducible refine (tartanlaw02_works.calls k  false _ A4.out).mono ?_); rintro e w37 ⟨rfl, hb⟩; refine ⟨_, rfl, ?_⟩; have n0_ := Aside0.mk (below_step (by repeat (first | (with_reducible first | exact HB.out | apply below_alloc | apply pw_below_drewN | apply below_drew1) | exact HB.out)) hb); clear HB; have HB := n0_; clear n0_; (try clear hb); (try clear hb2); (try clear hk); (try clear hi)))
    go_ret
    exact ⟨by first | rfl | (simp [errW_none, errW_some] <;> rfl) | (simp [*, errW_none, errW_some] <;> rfl), by repeat (first | (with_reducible first | exact HB.out | apply below_alloc | apply pw_below_drewN | apply below_drew1) | exact HB.out)⟩

end Go.Proofs.Ytggodagdfldndaa.Q.L.M
