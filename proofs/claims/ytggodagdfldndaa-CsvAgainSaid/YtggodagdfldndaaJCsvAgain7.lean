/- The law CsvAgain of the given statements: for every input it answers true, and its arguments read afterwards as before: What is parsed is printed, and parsed, the same; it is no longer then, but for a break. Conditions: none but those of the given statement itself. -/
import Derived.Test.YtggodagdfldndaaJCsvAgain5
import Derived.Test.YtggodagdfldndaaJCsvAgain6
import Derived.Test.YtggodagdfldndaaJCsvAgain4
import Derived.Test.YtggodagdfldndaaRows
import Derived.WalkKit
import Derived.ProofKit
import Derived.OpenShut
import Derived.ShutString
import Derived.ChangeOld
import Derived.Below
import Derived.SizedLaws
set_option linter.unusedVariables false
set_option linter.unusedSimpArgs false
/-! Walks of Go functions of this seat against plain Lean functions, written by a program of this session (the kit's print, with hand-proved contracts for what it does not take). Lean checks them. -/
namespace Go.Proofs.Ytggodagdfldndaa.Q.L.Z
open Go.RowKit Go.Proofs.YtggodagdfldndaaW.PrintWords Go.Proofs.YtggodagdfldndaaW.PrintLast Go.Proofs.YtggodagdfldndaaW.PrintMore
attribute [local go_sem] max2_int min2_int max_two min_two max_three min_three max_four min_four   -- for this text's walks alone
set_option linter.unusedVariables false
set_option linter.unusedSimpArgs false

/-! ### tartanlaw03_CsvAgain: function 17 -/
def tartanlaw03_CsvAgain.f (k : Nat) (a0 : ByteArray) (a1 : Int) (a2 : Bool) : Option (Bool) := (tartanlaw03_works.f).bind fun t229 => (if t229 = true then (if (a0.size : Int) > 3000 then (some t229) else ((csv_Parse.f a0 a1).bind fun bt230 => (if bt230.2.2 = 0 then ((csv_Print.f bt230.1 a1 a2).bind fun bt235 => ((csv_Parse.f bt235.1 a1).bind fun bt237 => ((tartanref03_Same.f k bt230.1 bt237.1).bind fun t242 => ((csv_Print.f bt230.1 a1 false).bind fun bt243 => (if bt235.2 = 0 then (if bt237.2.2 = 0 then (if t242 = true then (if bt243.2 = 0 then (some (decide ((bt243.1.size : Int) ≤ (wrap64 ((a0.size : Int) + 1))))) else (some false)) else (some false)) else (some false)) else (some false)))))) else (if (bt230.1.length : Int) = 0 then (if bt230.2.1 ≥ 0 then (some (decide (bt230.2.1 ≤ (a0.size : Int)))) else (some false)) else (some false))))) else (some false))
theorem tartanlaw03_CsvAgain.mono : ∀ a0 a1 a2 k, LeO (tartanlaw03_CsvAgain.f k a0 a1 a2) (tartanlaw03_CsvAgain.f (k + 1) a0 a1 a2) := by
  intro a0 a1 a2 k
  unfold tartanlaw03_CsvAgain.f
  repeat' first
      | (with_reducible exact tartanref03_Same.mono _ _ _)
      | (with_reducible exact LeO.refl _)
      | (with_reducible exact LeO.none _)
      | (with_reducible refine LeO.ite ?_ ?_)
      | (with_reducible refine LeO.bind ?_ (fun _ => ?_))
      | exact tartanref03_Same.mono _ _ _
      | exact LeO.none _
      | refine LeO.ite ?_ ?_
      | refine LeO.bind ?_ (fun _ => ?_)
set_option maxHeartbeats 8000000 in
set_option maxRecDepth 100000 in
theorem tartanlaw03_CsvAgain.calls (k : Nat) (a0 : ByteArray) (a1 : Int) (a2 : Bool) (r : Bool) (w : World) (h : tartanlaw03_CsvAgain.f k a0 a1 a2 = some r) :
    Calls Try.prog 17 #[.string a0, .int .u8 a1, .bool a2] w fun e w' => e = .returned (.bool r) ∧ Below w.heap.size w w' := by
  have HB := Aside0.mk (Below.refl w.heap.size w)
  have H : ((tartanlaw03_works.f).bind fun t229 => (if t229 = true then (if (a0.size : Int) > 3000 then (some t229) else ((csv_Parse.f a0 a1).bind fun bt230 => (if bt230.2.2 = 0 then ((csv_Print.f bt230.1 a1 a2).bind fun bt235 => ((csv_Parse.f bt235.1 a1).bind fun bt237 => ((tartanref03_Same.f k bt230.1 bt237.1).bind fun t242 => ((csv_Print.f bt230.1 a1 false).bind fun bt243 => (if bt235.2 = 0 then (if bt237.2.2 = 0 then (if t242 = true then (if bt243.2 = 0 then (some (decide ((bt243.1.size : Int) ≤ (wrap64 ((a0.size : Int) + 1))))) else (some false)) else (some false)) else (some false)) else (some false)))))) else (if (bt230.1.length : Int) = 0 then (if bt230.2.1 ≥ 0 then (some (decide (bt230.2.1 ≤ (a0.size : Int)))) else (some false)) else (some false))))) else (some false))) = some r := h
  clear h
  replace H := Option.bind_eq_some_iff.mp H
  obtain ⟨t229, A40, H⟩ := H
  replace H : (if t229 = true then (if (a0.size : Int) > 3000 then (some t229) else ((csv_Parse.f a0 a1).bind fun bt230 => (if bt230.2.2 = 0 then ((csv_Print.f bt230.1 a1 a2).bind fun bt235 => ((csv_Parse.f bt235.1 a1).bind fun bt237 => ((tartanref03_Same.f k bt230.1 bt237.1).bind fun t242 => ((csv_Print.f bt230.1 a1 false).bind fun bt243 => (if bt235.2 = 0 then (if bt237.2.2 = 0 then (if t242 = true then (if bt243.2 = 0 then (some (decide ((bt243.1.size : Int) ≤ (wrap64 ((a0.size : Int) + 1))))) else (some false)) else (some false)) else (some false)) else (some false)))))) else (if (bt230.1.length : Int) = 0 then (if bt230.2.1 ≥ 0 then (some (decide (bt230.2.1 ≤ (a0.size : Int)))) else (some false)) else (some false))))) else (some false)) = some r := H
  have A4 := Aside0.mk A40
  clear A40
  by_cases c5 : t229 = true
  · subst c5
    have H1 : (if (a0.size : Int) > 3000 then (some true) else ((csv_Parse.f a0 a1).bind fun bt230 => (if bt230.2.2 = 0 then ((csv_Print.f bt230.1 a1 a2).bind fun bt235 => ((csv_Parse.f bt235.1 a1).bind fun bt237 => ((tartanref03_Same.f k bt230.1 bt237.1).bind fun t242 => ((csv_Print.f bt230.1 a1 false).bind fun bt243 => (if bt235.2 = 0 then (if bt237.2.2 = 0 then (if t242 = true then (if bt243.2 = 0 then (some (decide ((bt243.1.size : Int) ≤ (wrap64 ((a0.size : Int) + 1))))) else (some false)) else (some false)) else (some false)) else (some false)))))) else (if (bt230.1.length : Int) = 0 then (if bt230.2.1 ≥ 0 then (some (decide (bt230.2.1 ≤ (a0.size : Int)))) else (some false)) else (some false))))) = some r := by rw [if_pos rfl] at H; exact H
    clear H
    have H := H1
    clear H1
    by_cases c6 : (a0.size : Int) > 3000
    · rw [if_pos c6] at H
      have c6b0 : decide (3000 < (a0.size : Int)) = true := decide_eq_true c6
      have c6b1 : decide (3000 < a0.size) = true := decide_eq_true (by omega)
      clear c6
      obtain rfl := Option.some.inj H
      go_enter Try.func17, Try.ntmps17
      go_wp2_with (first | ((with_reducible refine gate_callee (f := 39) rfl ?_); refine goesL_ (some 19) rfl rfl Try.func39 (by kernel_rfl) rfl #[] rfl (by (try simp only [List.map_toArray, List.map_cons, List.map_nil]); first | done | rfl | (simp only [List.length_drop, List.length_take]; rfl)) ?_; (with_reducible refine (tartanlaw03_works.calls  true _ A4.out).mono ?_); rintro e w7 ⟨rfl, hb⟩; refine ⟨_, rfl, ?_⟩; have n0_ := Aside0.mk (below_step (by repeat (first | (with_reducible first | exact HB.out | apply below_alloc | apply pw_below_drewN | apply below_drew1) | exact HB.out)) hb); clear HB; have HB := n0_; clear n0_; (try clear hb); (try clear hb2); (try clear hk); (try clear hi)))
      go_ret
      exact ⟨by first | rfl | (simp [errW_none, errW_some] <;> rfl) | (simp [*, errW_none, errW_some] <;> rfl), by repeat (first | (with_reducible first | exact HB.out | apply below_alloc | apply pw_below_drewN | apply below_drew1) | exact HB.out)⟩
    · rw [if_neg c6] at H
      have c6b0 : decide (3000 < (a0.size : Int)) = false := decide_eq_false c6
      have c6b1 : decide (3000 < a0.size) = false := decide_eq_false (by omega)
      clear c6
      replace H := Option.bind_eq_some_iff.mp H
      obtain ⟨⟨t230, t231, t232⟩, A80, H⟩ := H
      replace H : (if t232 = 0 then ((csv_Print.f t230 a1 a2).bind fun bt235 => ((csv_Parse.f bt235.1 a1).bind fun bt237 => ((tartanref03_Same.f k t230 bt237.1).bind fun t242 => ((csv_Print.f t230 a1 false).bind fun bt243 => (if bt235.2 = 0 then (if bt237.2.2 = 0 then (if t242 = true then (if bt243.2 = 0 then (some (decide ((bt243.1.size : Int) ≤ (wrap64 ((a0.size : Int) + 1))))) else (some false)) else (some false)) else (some false)) else (some false)))))) else (if (t230.length : Int) = 0 then (if t231 ≥ 0 then (some (decide (t231 ≤ (a0.size : Int)))) else (some false)) else (some false))) = some r := H
      have A8 := Aside0.mk A80
      clear A80
      by_cases c9 : t232 = 0
      · rw [if_pos c9] at H
        have c9b0 : (t232 == 0) = true := beq_iff_eq.mpr c9
        have c9b1 : (t232 != 0) = false := bne_eq_false_iff_eq.mpr c9
        clear c9
        replace H := Option.bind_eq_some_iff.mp H
        obtain ⟨⟨t235, t236⟩, A100, H⟩ := H
        replace H : ((csv_Parse.f t235 a1).bind fun bt237 => ((tartanref03_Same.f k t230 bt237.1).bind fun t242 => ((csv_Print.f t230 a1 false).bind fun bt243 => (if t236 = 0 then (if bt237.2.2 = 0 then (if t242 = true then (if bt243.2 = 0 then (some (decide ((bt243.1.size : Int) ≤ (wrap64 ((a0.size : Int) + 1))))) else (some false)) else (some false)) else (some false)) else (some false))))) = some r := H
        have A10 := Aside0.mk A100
        clear A100
        replace H := Option.bind_eq_some_iff.mp H
        obtain ⟨⟨t237, t238, t239⟩, A110, H⟩ := H
        replace H : ((tartanref03_Same.f k t230 t237).bind fun t242 => ((csv_Print.f t230 a1 false).bind fun bt243 => (if t236 = 0 then (if t239 = 0 then (if t242 = true then (if bt243.2 = 0 then (some (decide ((bt243.1.size : Int) ≤ (wrap64 ((a0.size : Int) + 1))))) else (some false)) else (some false)) else (some false)) else (some false)))) = some r := H
        have A11 := Aside0.mk A110
        clear A110
        replace H := Option.bind_eq_some_iff.mp H
        obtain ⟨t242, A120, H⟩ := H
        replace H : ((csv_Print.f t230 a1 false).bind fun bt243 => (if t236 = 0 then (if t239 = 0 then (if t242 = true then (if bt243.2 = 0 then (some (decide ((bt243.1.size : Int) ≤ (wrap64 ((a0.size : Int) + 1))))) else (some false)) else (some false)) else (some false)) else (some false))) = some r := H
        have A12 := Aside0.mk A120
        clear A120
        replace H := Option.bind_eq_some_iff.mp H
        obtain ⟨⟨t243, t244⟩, A130, H⟩ := H
        replace H : (if t236 = 0 then (if t239 = 0 then (if t242 = true then (if t244 = 0 then (some (decide ((t243.size : Int) ≤ (wrap64 ((a0.size : Int) + 1))))) else (some false)) else (some false)) else (some false)) else (some false)) = some r := H
        have A13 := Aside0.mk A130
        clear A130
        by_cases c14 : t236 = 0
        · rw [if_pos c14] at H
          have c14b0 : (t236 == 0) = true := beq_iff_eq.mpr c14
          have c14b1 : (t236 != 0) = false := bne_eq_false_iff_eq.mpr c14
          clear c14
          by_cases c15 : t239 = 0
          · rw [if_pos c15] at H
            have c15b0 : (t239 == 0) = true := beq_iff_eq.mpr c15
            have c15b1 : (t239 != 0) = false := bne_eq_false_iff_eq.mpr c15
            clear c15
            by_cases c16 : t242 = true
            · subst c16
              have H1 : (if t244 = 0 then (some (decide ((t243.size : Int) ≤ (wrap64 ((a0.size : Int) + 1))))) else (some false)) = some r := by rw [if_pos rfl] at H; exact H
              clear H
              have H := H1
              clear H1
              by_cases c17 : t244 = 0
              · rw [if_pos c17] at H
                have c17b0 : (t244 == 0) = true := beq_iff_eq.mpr c17
                have c17b1 : (t244 != 0) = false := bne_eq_false_iff_eq.mpr c17
                clear c17
                obtain rfl := Option.some.inj H
                go_enter Try.func17, Try.ntmps17
                go_wp2_with (first | ((with_reducible refine gate_callee (f := 39) rfl ?_); refine goesL_ (some 19) rfl rfl Try.func39 (by kernel_rfl) rfl #[] rfl (by (try simp only [List.map_toArray, List.map_cons, List.map_nil]); first | done | rfl | (simp only [List.length_drop, List.length_take]; rfl)) ?_; (with_reducible refine (tartanlaw03_works.calls  true _ A4.out).mono ?_); rintro e w18 ⟨rfl, hb⟩; refine ⟨_, rfl, ?_⟩; have n0_ := Aside0.mk (below_step (by repeat (first | (with_reducible first | exact HB.out | apply below_alloc | apply pw_below_drewN | apply below_drew1) | exact HB.out)) hb); clear HB; have HB := n0_; clear n0_; (try clear hb); (try clear hb2); (try clear hk); (try clear hi)) | ((with_reducible refine gate_callee (f := 40) rfl ?_); refine goesL_ (some 29) rfl rfl Try.func40 (by kernel_rfl) rfl #[.string a0, .int .u8 a1] rfl (by (try simp only [List.map_toArray, List.map_cons, List.map_nil]); first | done | rfl | (simp only [List.length_drop, List.length_take]; rfl)) ?_; (with_reducible refine (csv_Parse.calls a0 a1 t230 t231 t232 _ A8.out).mono ?_); rintro e w19 ⟨v233, rfl, ho0, hb⟩; refine ⟨_, rfl, ?_⟩; have n0_ := Aside0.mk (Kd.S_lower ho0 (below_size (by repeat (first | (with_reducible first | exact HB.out | apply below_alloc | apply pw_below_drewN | apply below_drew1) | exact HB.out)))); have n1_ := Aside0.mk (below_step (by repeat (first | (with_reducible first | exact HB.out | apply below_alloc | apply pw_below_drewN | apply below_drew1) | exact HB.out)) hb); clear HB; have HO234 := n0_; have HB := n1_; clear n0_ n1_; (try clear hb); (try clear hb2); (try clear hk); (try clear hi); (try clear ho0); obtain ⟨Ao20, co20, eo20⟩ := Kd.S_slice HO234.out; subst eo20) | ((with_reducible refine gate_callee (f := 44) rfl ?_); refine goesL_ (some 55) rfl rfl Try.func44 (by kernel_rfl) rfl #[.slice Ao20 t230.length co20, .int .u8 a1, .bool a2] rfl (by (try simp only [List.map_toArray, List.map_cons, List.map_nil]); first | done | rfl | (simp only [List.length_drop, List.length_take]; rfl)) ?_; (with_reducible refine (csv_Print.calls _ _ t230 a1 a2 t235 t236 _ ?side1 ?side2 A10.out).mono ?_); (case side1 => repeat (first | exact (Kd.S_reads' HO234.out).2.2 | (with_reducible refine Kd.C_alloc ?_ _) | (with_reducible refine Kd.C_drewN ?_ _) | (with_reducible refine Kd.C_drew ?_))); (case side2 => exact (Kd.S_reads' HO234.out).2.1); rintro e w21 ⟨rfl, hb⟩; refine ⟨_, rfl, ?_⟩; have n0_ := Aside0.mk (Kd.S_below (by (with_reducible repeat (first | apply Kd.S_alloc | apply Kd.S_drewN | apply Kd.S_drew)); exact HO234.out) hb); have n1_ := Aside0.mk (below_step (by repeat (first | (with_reducible first | exact HB.out | apply below_alloc | apply pw_below_drewN | apply below_drew1) | exact HB.out)) hb); clear HO234; clear HB; have HO234 := n0_; have HB := n1_; clear n0_ n1_; (try clear hb); (try clear hb2); (try clear hk); (try clear hi)) | ((with_reducible refine gate_callee (f := 40) rfl ?_); refine goesL_ (some 61) rfl rfl Try.func40 (by kernel_rfl) rfl #[.string t235, .int .u8 a1] rfl (by (try simp only [List.map_toArray, List.map_cons, List.map_nil]); first | done | rfl | (simp only [List.length_drop, List.length_take]; rfl)) ?_; (with_reducible refine (csv_Parse.calls t235 a1 t237 t238 t239 _ A11.out).mono ?_); rintro e w22 ⟨v240, rfl, ho0, hb⟩; refine ⟨_, rfl, ?_⟩; have n0_ := Aside0.mk (Kd.S_elder' (by (with_reducible repeat (first | apply Kd.S_alloc | apply Kd.S_drewN | apply Kd.S_drew)); exact HO234.out) (Kd.S_base ho0) hb); have n1_ := Aside0.mk (Kd.S_lower (Kd.S_new' ho0 (Kd.S_lt (by (with_reducible repeat (first | apply Kd.S_alloc | apply Kd.S_drewN | apply Kd.S_drew)); exact HO234.out))) (below_size (by repeat (first | (with_reducible first | exact HB.out | apply below_alloc | apply pw_below_drewN | apply below_drew1) | exact HB.out)))); have n2_ := Aside0.mk (below_step (by repeat (first | (with_reducible first | exact HB.out | apply below_alloc | apply pw_below_drewN | apply below_drew1) | exact HB.out)) hb); clear HO234; clear HB; have HO234 := n0_; have HO241 := n1_; have HB := n2_; clear n0_ n1_ n2_; (try clear hb); (try clear hb2); (try clear hk); (try clear hi); (try clear ho0); obtain ⟨Ao23, co23, eo23⟩ := Kd.S_slice HO241.out; subst eo23) | ((with_reducible refine gate_callee (f := 42) rfl ?_); refine goesL_ (some 67) rfl rfl Try.func42 (by kernel_rfl) rfl #[.slice Ao20 t230.length co20, .slice Ao23 t237.length co23] rfl (by (try simp only [List.map_toArray, List.map_cons, List.map_nil]); first | done | rfl | (simp only [List.length_drop, List.length_take]; rfl)) ?_; (with_reducible refine (tartanref03_Same.calls k _ _ t230 _ _ t237 true _ ?side1 ?side2 ?side3 ?side4 A12.out).mono ?_); (case side1 => repeat (first | exact (Kd.S_reads' HO234.out).2.2 | (with_reducible refine Kd.C_alloc ?_ _) | (with_reducible refine Kd.C_drewN ?_ _) | (with_reducible refine Kd.C_drew ?_))); (case side2 => exact (Kd.S_reads' HO234.out).2.1); (case side3 => repeat (first | exact (Kd.S_reads' HO241.out).2.2 | (with_reducible refine Kd.C_alloc ?_ _) | (with_reducible refine Kd.C_drewN ?_ _) | (with_reducible refine Kd.C_drew ?_))); (case side4 => exact (Kd.S_reads' HO241.out).2.1); rintro e w' ⟨rfl, ⟨nd, rfl⟩⟩; refine ⟨_, rfl, ?_⟩) | ((with_reducible refine gate_callee (f := 44) rfl ?_); refine goesL_ (some 71) rfl rfl Try.func44 (by kernel_rfl) rfl #[.slice Ao20 t230.length co20, .int .u8 a1, .bool false] rfl (by (try simp only [List.map_toArray, List.map_cons, List.map_nil]); first | done | rfl | (simp only [List.length_drop, List.length_take]; rfl)) ?_; (with_reducible refine (csv_Print.calls _ _ t230 a1 false t243 t244 _ ?side1 ?side2 A13.out).mono ?_); (case side1 => repeat (first | exact (Kd.S_reads' HO234.out).2.2 | (with_reducible refine Kd.C_alloc ?_ _) | (with_reducible refine Kd.C_drewN ?_ _) | (with_reducible refine Kd.C_drew ?_))); (case side2 => exact (Kd.S_reads' HO234.out).2.1); rintro e w24 ⟨rfl, hb⟩; refine ⟨_, rfl, ?_⟩; have n0_ := Aside0.mk (Kd.S_below (by (with_reducible repeat (first | apply Kd.S_alloc | apply Kd.S_drewN | apply Kd.S_drew)); exact HO234.out) hb); have n1_ := Aside0.mk (Kd.S_below (by (with_reducible repeat (first | apply Kd.S_alloc | apply Kd.S_drewN | apply Kd.S_drew)); exact HO241.out) hb); have n2_ := Aside0.mk (below_step (by repeat (first | (with_reducible first | exact HB.out | apply below_alloc | apply pw_below_drewN | apply below_drew1) | exact HB.out)) hb); clear HO234; clear HO241; clear HB; have HO234 := n0_; have HO241 := n1_; have HB := n2_; clear n0_ n1_ n2_; (try clear hb); (try clear hb2); (try clear hk); (try clear hi)))
                go_ret
                exact ⟨by first | rfl | (simp [errW_none, errW_some] <;> rfl) | (simp [*, errW_none, errW_some] <;> rfl), by repeat (first | (with_reducible first | exact HB.out | apply below_alloc | apply pw_below_drewN | apply below_drew1) | exact HB.out)⟩
              · rw [if_neg c17] at H
                have c17b0 : (t244 == 0) = false := beq_eq_false_iff_ne.mpr c17
                have c17b1 : (t244 != 0) = true := bne_iff_ne.mpr c17
                obtain rfl := Option.some.inj H
                go_enter Try.func17, Try.ntmps17
                go_wp2_with (first | ((with_reducible refine gate_callee (f := 39) rfl ?_); refine goesL_ (some 19) rfl rfl Try.func39 (by kernel_rfl) rfl #[] rfl (by (try simp only [List.map_toArray, List.map_cons, List.map_nil]); first | done | rfl | (simp only [List.length_drop, List.length_take]; rfl)) ?_; (with_reducible refine (tartanlaw03_works.calls  true _ A4.out).mono ?_); rintro e w25 ⟨rfl, hb⟩; refine ⟨_, rfl, ?_⟩; have n0_ := Aside0.mk (below_step (by repeat (first | (with_reducible first | exact HB.out | apply below_alloc | apply pw_below_drewN | apply below_drew1) | exact HB.out)) hb); clear HB; have HB := n0_; clear n0_; (try clear hb); (try clear hb2); (try clear hk); (try clear hi)) | ((with_reducible refine gate_callee (f := 40) rfl ?_); refine goesL_ (some 29) rfl rfl Try.func40 (by kernel_rfl) rfl #[.string a0, .int .u8 a1] rfl (by (try simp only [List.map_toArray, List.map_cons, List.map_nil]); first | done | rfl | (simp only [List.length_drop, List.length_take]; rfl)) ?_; (with_reducible refine (csv_Parse.calls a0 a1 t230 t231 t232 _ A8.out).mono ?_); rintro e w26 ⟨v233, rfl, ho0, hb⟩; refine ⟨_, rfl, ?_⟩; have n0_ := Aside0.mk (Kd.S_lower ho0 (below_size (by repeat (first | (with_reducible first | exact HB.out | apply below_alloc | apply pw_below_drewN | apply below_drew1) | exact HB.out)))); have n1_ := Aside0.mk (below_step (by repeat (first | (with_reducible first | exact HB.out | apply below_alloc | apply pw_below_drewN | apply below_drew1) | exact HB.out)) hb); clear HB; have HO234 := n0_; have HB := n1_; clear n0_ n1_; (try clear hb); (try clear hb2); (try clear hk); (try clear hi); (try clear ho0); obtain ⟨Ao27, co27, eo27⟩ := Kd.S_slice HO234.out; subst eo27) | ((with_reducible refine gate_callee (f := 44) rfl ?_); refine goesL_ (some 55) rfl rfl Try.func44 (by kernel_rfl) rfl #[.slice Ao27 t230.length co27, .int .u8 a1, .bool a2] rfl (by (try simp only [List.map_toArray, List.map_cons, List.map_nil]); first | done | rfl | (simp only [List.length_drop, List.length_take]; rfl)) ?_; (with_reducible refine (csv_Print.calls _ _ t230 a1 a2 t235 t236 _ ?side1 ?side2 A10.out).mono ?_); (case side1 => repeat (first | exact (Kd.S_reads' HO234.out).2.2 | (with_reducible refine Kd.C_alloc ?_ _) | (with_reducible refine Kd.C_drewN ?_ _) | (with_reducible refine Kd.C_drew ?_))); (case side2 => exact (Kd.S_reads' HO234.out).2.1); rintro e w28 ⟨rfl, hb⟩; refine ⟨_, rfl, ?_⟩; have n0_ := Aside0.mk (Kd.S_below (by (with_reducible repeat (first | apply Kd.S_alloc | apply Kd.S_drewN | apply Kd.S_drew)); exact HO234.out) hb); have n1_ := Aside0.mk (below_step (by repeat (first | (with_reducible first | exact HB.out | apply below_alloc | apply pw_below_drewN | apply below_drew1) | exact HB.out)) hb); clear HO234; clear HB; have HO234 := n0_; have HB := n1_; clear n0_ n1_; (try clear hb); (try clear hb2); (try clear hk); (try clear hi)) | ((with_reducible refine gate_callee (f := 40) rfl ?_); refine goesL_ (some 61) rfl rfl Try.func40 (by kernel_rfl) rfl #[.string t235, .int .u8 a1] rfl (by (try simp only [List.map_toArray, List.map_cons, List.map_nil]); first | done | rfl | (simp only [List.length_drop, List.length_take]; rfl)) ?_; (with_reducible refine (csv_Parse.calls t235 a1 t237 t238 t239 _ A11.out).mono ?_); rintro e w29 ⟨v240, rfl, ho0, hb⟩; refine ⟨_, rfl, ?_⟩; have n0_ := Aside0.mk (Kd.S_elder' (by (with_reducible repeat (first | apply Kd.S_alloc | apply Kd.S_drewN | apply Kd.S_drew)); exact HO234.out) (Kd.S_base ho0) hb); have n1_ := Aside0.mk (Kd.S_lower (Kd.S_new' ho0 (Kd.S_lt (by (with_reducible repeat (first | apply Kd.S_alloc | apply Kd.S_drewN | apply Kd.S_drew)); exact HO234.out))) (below_size (by repeat (first | (with_reducible first | exact HB.out | apply below_alloc | apply pw_below_drewN | apply below_drew1) | exact HB.out)))); have n2_ := Aside0.mk (below_step (by repeat (first | (with_reducible first | exact HB.out | apply below_alloc | apply pw_below_drewN | apply below_drew1) | exact HB.out)) hb); clear HO234; clear HB; have HO234 := n0_; have HO241 := n1_; have HB := n2_; clear n0_ n1_ n2_; (try clear hb); (try clear hb2); (try clear hk); (try clear hi); (try clear ho0); obtain ⟨Ao30, co30, eo30⟩ := Kd.S_slice HO241.out; subst eo30) | ((with_reducible refine gate_callee (f := 42) rfl ?_); refine goesL_ (some 67) rfl rfl Try.func42 (by kernel_rfl) rfl #[.slice Ao27 t230.length co27, .slice Ao30 t237.length co30] rfl (by (try simp only [List.map_toArray, List.map_cons, List.map_nil]); first | done | rfl | (simp only [List.length_drop, List.length_take]; rfl)) ?_; (with_reducible refine (tartanref03_Same.calls k _ _ t230 _ _ t237 true _ ?side1 ?side2 ?side3 ?side4 A12.out).mono ?_); (case side1 => repeat (first | exact (Kd.S_reads' HO234.out).2.2 | (with_reducible refine Kd.C_alloc ?_ _) | (with_reducible refine Kd.C_drewN ?_ _) | (with_reducible refine Kd.C_drew ?_))); (case side2 => exact (Kd.S_reads' HO234.out).2.1); (case side3 => repeat (first | exact (Kd.S_reads' HO241.out).2.2 | (with_reducible refine Kd.C_alloc ?_ _) | (with_reducible refine Kd.C_drewN ?_ _) | (with_reducible refine Kd.C_drew ?_))); (case side4 => exact (Kd.S_reads' HO241.out).2.1); rintro e w' ⟨rfl, ⟨nd, rfl⟩⟩; refine ⟨_, rfl, ?_⟩) | ((with_reducible refine gate_callee (f := 44) rfl ?_); refine goesL_ (some 71) rfl rfl Try.func44 (by kernel_rfl) rfl #[.slice Ao27 t230.length co27, .int .u8 a1, .bool false] rfl (by (try simp only [List.map_toArray, List.map_cons, List.map_nil]); first | done | rfl | (simp only [List.length_drop, List.length_take]; rfl)) ?_; (with_reducible refine (csv_Print.calls _ _ t230 a1 false t243 t244 _ ?side1 ?side2 A13.out).mono ?_); (case side1 => repeat (first | exact (Kd.S_reads' HO234.out).2.2 | (with_reducible refine Kd.C_alloc ?_ _) | (with_reducible refine Kd.C_drewN ?_ _) | (with_reducible refine Kd.C_drew ?_))); (case side2 => exact (Kd.S_reads' HO234.out).2.1); rintro e w31 ⟨rfl, hb⟩; refine ⟨_, rfl, ?_⟩; have n0_ := Aside0.mk (Kd.S_below (by (with_reducible repeat (first | apply Kd.S_alloc | apply Kd.S_drewN | apply Kd.S_drew)); exact HO234.out) hb); have n1_ := Aside0.mk (Kd.S_below (by (with_reducible repeat (first | apply Kd.S_alloc | apply Kd.S_drewN | apply Kd.S_drew)); exact HO241.out) hb); have n2_ := Aside0.mk (below_step (by repeat (first | (with_reducible first | exact HB.out | apply below_alloc | apply pw_below_drewN | apply below_drew1) | exact HB.out)) hb); clear HO234; clear HO241; clear HB; have HO234 := n0_; have HO241 := n1_; have HB := n2_; clear n0_ n1_ n2_; (try clear hb); (try clear hb2); (try clear hk); (try clear hi)))
                go_ret
                exact ⟨by first | rfl | (simp [errW_none, errW_some] <;> rfl) | (simp [*, errW_none, errW_some] <;> rfl), by repeat (first | (with_reducible first | exact HB.out | apply below_alloc | apply pw_below_drewN | apply below_drew1) | exact HB.out)⟩
            · replace c16 := Bool.eq_false_iff.mpr c16
              subst c16
              have H1 : (some false) = some r := by rw [if_neg (show ¬ (false = true) by decide)] at H; exact H
              clear H
              have H := H1
              clear H1
              obtain rfl := Option.some.inj H
              go_enter Try.func17, Try.ntmps17
              go_wp2_with (first | ((with_reducible refine gate_callee (f := 39) rfl ?_); refine goesL_ (some 19) rfl rfl Try.func39 (by kernel_rfl) rfl #[] rfl (by (try simp only [List.map_toArray, List.map_cons, List.map_nil]); first | done | rfl | (simp only [List.length_drop, List.length_take]; rfl)) ?_; (with_reducible refine (tartanlaw03_works.calls  true _ A4.out).mono ?_); rintro e w32 ⟨rfl, hb⟩; refine ⟨_, rfl, ?_⟩; have n0_ := Aside0.mk (below_step (by repeat (first | (with_reducible first | exact HB.out | apply below_alloc | apply pw_below_drewN | apply below_drew1) | exact HB.out)) hb); clear HB; have HB := n0_; clear n0_; (try clear hb); (try clear hb2); (try clear hk); (try clear hi)) | ((with_reducible refine gate_callee (f := 40) rfl ?_); refine goesL_ (some 29) rfl rfl Try.func40 (by kernel_rfl) rfl #[.string a0, .int .u8 a1] rfl (by (try simp only [List.map_toArray, List.map_cons, List.map_nil]); first | done | rfl | (simp only [List.length_drop, List.length_take]; rfl)) ?_; (with_reducible refine (csv_Parse.calls a0 a1 t230 t231 t232 _ A8.out).mono ?_); rintro e w33 ⟨v233, rfl, ho0, hb⟩; refine ⟨_, rfl, ?_⟩; have n0_ := Aside0.mk (Kd.S_lower ho0 (below_size (by repeat (first | (with_reducible first | exact HB.out | apply below_alloc | apply pw_below_drewN | apply below_drew1) | exact HB.out)))); have n1_ := Aside0.mk (below_step (by repeat (first | (with_reducible first | exact HB.out | apply below_alloc | apply pw_below_drewN | apply below_drew1) | exact HB.out)) hb); clear HB; have HO234 := n0_; have HB := n1_; clear n0_ n1_; (try clear hb); (try clear hb2); (try clear hk); (try clear hi); (try clear ho0); obtain ⟨Ao34, co34, eo34⟩ := Kd.S_slice HO234.out; subst eo34) | ((with_reducible refine gate_callee (f := 44) rfl ?_); refine goesL_ (some 55) rfl rfl Try.func44 (by kernel_rfl) rfl #[.slice Ao34 t230.length co34, .int .u8 a1, .bool a2] rfl (by (try simp only [List.map_toArray, List.map_cons, List.map_nil]); first | done | rfl | (simp only [List.length_drop, List.length_take]; rfl)) ?_; (with_reducible refine (csv_Print.calls _ _ t230 a1 a2 t235 t236 _ ?side1 ?side2 A10.out).mono ?_); (case side1 => repeat (first | exact (Kd.S_reads' HO234.out).2.2 | (with_reducible refine Kd.C_alloc ?_ _) | (with_reducible refine Kd.C_drewN ?_ _) | (with_reducible refine Kd.C_drew ?_))); (case side2 => exact (Kd.S_reads' HO234.out).2.1); rintro e w35 ⟨rfl, hb⟩; refine ⟨_, rfl, ?_⟩; have n0_ := Aside0.mk (Kd.S_below (by (with_reducible repeat (first | apply Kd.S_alloc | apply Kd.S_drewN | apply Kd.S_drew)); exact HO234.out) hb); have n1_ := Aside0.mk (below_step (by repeat (first | (with_reducible first | exact HB.out | apply below_alloc | apply pw_below_drewN | apply below_drew1) | exact HB.out)) hb); clear HO234; clear HB; have HO234 := n0_; have HB := n1_; clear n0_ n1_; (try clear hb); (try clear hb2); (try clear hk); (try clear hi)) | ((with_reducible refine gate_callee (f := 40) rfl ?_); refine goesL_ (some 61) rfl rfl Try.func40 (by kernel_rfl) rfl #[.string t235, .int .u8 a1] rfl (by (try simp only [List.map_toArray, List.map_cons, List.map_nil]); first | done | rfl | (simp only [List.length_drop, List.length_take]; rfl)) ?_; (with_reducible refine (csv_Parse.calls t235 a1 t237 t238 t239 _ A11.out).mono ?_); rintro e w36 ⟨v240, rfl, ho0, hb⟩; refine ⟨_, rfl, ?_⟩; have n0_ := Aside0.mk (Kd.S_elder' (by (with_reducible repeat (first | apply Kd.S_alloc | apply Kd.S_drewN | apply Kd.S_drew)); exact HO234.out) (Kd.S_base ho0) hb); have n1_ := Aside0.mk (Kd.S_lower (Kd.S_new' ho0 (Kd.S_lt (by (with_reducible repeat (first | apply Kd.S_alloc | apply Kd.S_drewN | apply Kd.S_drew)); exact HO234.out))) (below_size (by repeat (first | (with_reducible first | exact HB.out | apply below_alloc | apply pw_below_drewN | apply below_drew1) | exact HB.out)))); have n2_ := Aside0.mk (below_step (by repeat (first | (with_reducible first | exact HB.out | apply below_alloc | apply pw_below_drewN | apply below_drew1) | exact HB.out)) hb); clear HO234; clear HB; have HO234 := n0_; have HO241 := n1_; have HB := n2_; clear n0_ n1_ n2_; (try clear hb); (try clear hb2); (try clear hk); (try clear hi); (try clear ho0); obtain ⟨Ao37, co37, eo37⟩ := Kd.S_slice HO241.out; subst eo37) | ((with_reducible refine gate_callee (f := 42) rfl ?_); refine goesL_ (some 67) rfl rfl Try.func42 (by kernel_rfl) rfl #[.slice Ao34 t230.length co34, .slice Ao37 t237.length co37] rfl (by (try simp only [List.map_toArray, List.map_cons, List.map_nil]); first | done | rfl | (simp only [List.length_drop, List.length_take]; rfl)) ?_; (with_reducible refine (tartanref03_Same.calls k _ _ t230 _ _ t237 false _ ?side1 ?side2 ?side3 ?side4 A12.out).mono ?_); (case side1 => repeat (first | exact (Kd.S_reads' HO234.out).2.2 | (with_reducible refine Kd.C_alloc ?_ _) | (with_reducible refine Kd.C_drewN ?_ _) | (with_reducible refine Kd.C_drew ?_))); (case side2 => exact (Kd.S_reads' HO234.out).2.1); (case side3 => repeat (first | exact (Kd.S_reads' HO241.out).2.2 | (with_reducible refine Kd.C_alloc ?_ _) | (with_reducible refine Kd.C_drewN ?_ _) | (with_reducible refine Kd.C_drew ?_))); (case side4 => exact (Kd.S_reads' HO241.out).2.1); rintro e w' ⟨rfl, ⟨nd, rfl⟩⟩; refine ⟨_, rfl, ?_⟩) | ((with_reducible refine gate_callee (f := 44) rfl ?_); refine goesL_ (some 71) rfl rfl Try.func44 (by kernel_rfl) rfl #[.slice Ao34 t230.length co34, .int .u8 a1, .bool false] rfl (by (try simp only [List.map_toArray, List.map_cons, List.map_nil]); first | done | rfl | (simp only [List.length_drop, List.length_take]; rfl)) ?_; (with_reducible refine (csv_Print.calls _ _ t230 a1 false t243 t244 _ ?side1 ?side2 A13.out).mono ?_); (case side1 => repeat (first | exact (Kd.S_reads' HO234.out).2.2 | (with_reducible refine Kd.C_alloc ?_ _) | (with_reducible refine Kd.C_drewN ?_ _) | (with_reducible refine Kd.C_drew ?_))); (case side2 => exact (Kd.S_reads' HO234.out).2.1); rintro e w38 ⟨rfl, hb⟩; refine ⟨_, rfl, ?_⟩; have n0_ := Aside0.mk (Kd.S_below (by (with_reducible repeat (first | apply Kd.S_alloc | apply Kd.S_drewN | apply Kd.S_drew)); exact HO234.out) hb); have n1_ := Aside0.mk (Kd.S_below (by (with_reducible repeat (first | apply Kd.S_alloc | apply Kd.S_drewN | apply Kd.S_drew)); exact HO241.out) hb); have n2_ := Aside0.mk (below_step (by repeat (first | (with_reducible first | exact HB.out | apply below_alloc | apply pw_below_drewN | apply below_drew1) | exact HB.out)) hb); clear HO234; clear HO241; clear HB; have HO234 := n0_; have HO241 := n1_; have HB := n2_; clear n0_ n1_ n2_; (try clear hb); (try clear hb2); (try clear hk); (try clear hi)))
              go_ret
              exact ⟨by first | rfl | (simp [errW_none, errW_some] <;> rfl) | (simp [*, errW_none, errW_some] <;> rfl), by repeat (first | (with_reducible first | exact HB.out | apply below_alloc | apply pw_below_drewN | apply below_drew1) | exact HB.out)⟩
          · rw [if_neg c15] at H
            have c15b0 : (t239 == 0) = false := beq_eq_false_iff_ne.mpr c15
            have c15b1 : (t239 != 0) = true := bne_iff_ne.mpr c15
            obtain rfl := Option.some.inj H
            go_enter Try.func17, Try.ntmps17
            go_wp2_with (first | ((with_reducible refine gate_callee (f := 39) rfl ?_); refine goesL_ (some 19) rfl rfl Try.func39 (by kernel_rfl) rfl #[] rfl (by (try simp only [List.map_toArray, List.map_cons, List.map_nil]); first | done | rfl | (simp only [List.length_drop, List.length_take]; rfl)) ?_; (with_reducible refine (tartanlaw03_works.calls  true _ A4.out).mono ?_); rintro e w39 ⟨rfl, hb⟩; refine ⟨_, rfl, ?_⟩; have n0_ := Aside0.mk (below_step (by repeat (first | (with_reducible first | exact HB.out | apply below_alloc | apply pw_below_drewN | apply below_drew1) | exact HB.out)) hb); clear HB; have HB := n0_; clear n0_; (try clear hb); (try clear hb2); (try clear hk); (try clear hi)) | ((with_reducible refine gate_callee (f := 40) rfl ?_); refine goesL_ (some 29) rfl rfl Try.func40 (by kernel_rfl) rfl #[.string a0, .int .u8 a1] rfl (by (try simp only [List.map_toArray, List.map_cons, List.map_nil]); first | done | rfl | (simp only [List.length_drop, List.length_take]; rfl)) ?_; (with_reducible refine (csv_Parse.calls a0 a1 t230 t231 t232 _ A8.out).mono ?_); rintro e w40 ⟨v233, rfl, ho0, hb⟩; refine ⟨_, rfl, ?_⟩; have n0_ := Aside0.mk (Kd.S_lower ho0 (below_size (by repeat (first | (with_reducible first | exact HB.out | apply below_alloc | apply pw_below_drewN | apply below_drew1) | exact HB.out)))); have n1_ := Aside0.mk (below_step (by repeat (first | (with_reducible first | exact HB.out | apply below_alloc | apply pw_below_drewN | apply below_drew1) | exact HB.out)) hb); clear HB; have HO234 := n0_; have HB := n1_; clear n0_ n1_; (try clear hb); (try clear hb2); (try clear hk); (try clear hi); (try clear ho0); obtain ⟨Ao41, co41, eo41⟩ := Kd.S_slice HO234.out; subst eo41) | ((with_reducible refine gate_callee (f := 44) rfl ?_); refine goesL_ (some 55) rfl rfl Try.func44 (by kernel_rfl) rfl #[.slice Ao41 t230.length co41, .int .u8 a1, .bool a2] rfl (by (try simp only [List.map_toArray, List.map_cons, List.map_nil]); first | done | rfl | (simp only [List.length_drop, List.length_take]; rfl)) ?_; (with_reducible refine (csv_Print.calls _ _ t230 a1 a2 t235 t236 _ ?side1 ?side2 A10.out).mono ?_); (case side1 => repeat (first | exact (Kd.S_reads' HO234.out).2.2 | (with_reducible refine Kd.C_alloc ?_ _) | (with_reducible refine Kd.C_drewN ?_ _) | (with_reducible refine Kd.C_drew ?_))); (case side2 => exact (Kd.S_reads' HO234.out).2.1); rintro e w42 ⟨rfl, hb⟩; refine ⟨_, rfl, ?_⟩; have n0_ := Aside0.mk (Kd.S_below (by (with_reducible repeat (first | apply Kd.S_alloc | apply Kd.S_drewN | apply Kd.S_drew)); exact HO234.out) hb); have n1_ := Aside0.mk (below_step (by repeat (first | (with_reducible first | exact HB.out | apply below_alloc | apply pw_below_drewN | apply below_drew1) | exact HB.out)) hb); clear HO234; clear HB; have HO234 := n0_; have HB := n1_; clear n0_ n1_; (try clear hb); (try clear hb2); (try clear hk); (try clear hi)) | ((with_reducible refine gate_callee (f := 40) rfl ?_); refine goesL_ (some 61) rfl rfl Try.func40 (by kernel_rfl) rfl #[.string t235, .int .u8 a1] rfl (by (try simp only [List.map_toArray, List.map_cons, List.map_nil]); first | done | rfl | (simp only [List.length_drop, List.length_take]; rfl)) ?_; (with_reducible refine (csv_Parse.calls t235 a1 t237 t238 t239 _ A11.out).mono ?_); rintro e w43 ⟨v240, rfl, ho0, hb⟩; refine ⟨_, rfl, ?_⟩; have n0_ := Aside0.mk (Kd.S_elder' (by (with_reducible repeat (first | apply Kd.S_alloc | apply Kd.S_drewN | apply Kd.S_drew)); exact HO234.out) (Kd.S_base ho0) hb); have n1_ := Aside0.mk (Kd.S_lower (Kd.S_new' ho0 (Kd.S_lt (by (with_reducible repeat (first | apply Kd.S_alloc | apply Kd.S_drewN | apply Kd.S_drew)); exact HO234.out))) (below_size (by repeat (first | (with_reducible first | exact HB.out | apply below_alloc | apply pw_below_drewN | apply below_drew1) | exact HB.out)))); have n2_ := Aside0.mk (below_step (by repeat (first | (with_reducible first | exact HB.out | apply below_alloc | apply pw_below_drewN | apply below_drew1) | exact HB.out)) hb); clear HO234; clear HB; have HO234 := n0_; have HO241 := n1_; have HB := n2_; clear n0_ n1_ n2_; (try clear hb); (try clear hb2); (try clear hk); (try clear hi); (try clear ho0); obtain ⟨Ao44, co44, eo44⟩ := Kd.S_slice HO241.out; subst eo44) | ((with_reducible refine gate_callee (f := 42) rfl ?_); refine goesL_ (some 67) rfl rfl Try.func42 (by kernel_rfl) rfl #[.slice Ao41 t230.length co41, .slice Ao44 t237.length co44] rfl (by (try simp only [List.map_toArray, List.map_cons, List.map_nil]); first | done | rfl | (simp only [List.length_drop, List.length_take]; rfl)) ?_; (with_reducible refine (tartanref03_Same.calls k _ _ t230 _ _ t237 t242 _ ?side1 ?side2 ?side3 ?side4 A12.out).mono ?_); (case side1 => repeat (first | exact (Kd.S_reads' HO234.out).2.2 | (with_reducible refine Kd.C_alloc ?_ _) | (with_reducible refine Kd.C_drewN ?_ _) | (with_reducible refine Kd.C_drew ?_))); (case side2 => exact (Kd.S_reads' HO234.out).2.1); (case side3 => repeat (first | exact (Kd.S_reads' HO241.out).2.2 | (with_reducible refine Kd.C_alloc ?_ _) | (with_reducible refine Kd.C_drewN ?_ _) | (with_reducible refine Kd.C_drew ?_))); (case side4 => exact (Kd.S_reads' HO241.out).2.1); rintro e w' ⟨rfl, ⟨nd, rfl⟩⟩; refine ⟨_, rfl, ?_⟩) | ((with_reducible refine gate_callee (f := 44) rfl ?_); refine goesL_ (some 71) rfl rfl Try.func44 (by kernel_rfl) rfl #[.slice Ao41 t230.length co41, .int .u8 a1, .bool false] rfl (by (try simp only [List.map_toArray, List.map_cons, List.map_nil]); first | done | rfl | (simp only [List.length_drop, List.length_take]; rfl)) ?_; (with_reducible refine (csv_Print.calls _ _ t230 a1 false t243 t244 _ ?side1 ?side2 A13.out).mono ?_); (case side1 => repeat (first | exact (Kd.S_reads' HO234.out).2.2 | (with_reducible refine Kd.C_alloc ?_ _) | (with_reducible refine Kd.C_drewN ?_ _) | (with_reducible refine Kd.C_drew ?_))); (case side2 => exact (Kd.S_reads' HO234.out).2.1); rintro e w45 ⟨rfl, hb⟩; refine ⟨_, rfl, ?_⟩; have n0_ := Aside0.mk (Kd.S_below (by (with_reducible repeat (first | apply Kd.S_alloc | apply Kd.S_drewN | apply Kd.S_drew)); exact HO234.out) hb); have n1_ := Aside0.mk (Kd.S_below (by (with_reducible repeat (first | apply Kd.S_alloc | apply Kd.S_drewN | apply Kd.S_drew)); exact HO241.out) hb); have n2_ := Aside0.mk (below_step (by repeat (first | (with_reducible first | exact HB.out | apply below_alloc | apply pw_below_drewN | apply below_drew1) | exact HB.out)) hb); clear HO234; clear HO241; clear HB; have HO234 := n0_; have HO241 := n1_; have HB := n2_; clear n0_ n1_ n2_; (try clear hb); (try clear hb2); (try clear hk); (try clear hi)))
            go_ret
            exact ⟨by first | rfl | (simp [errW_none, errW_some] <;> rfl) | (simp [*, errW_none, errW_some] <;> rfl), by repeat (first | (with_reducible first | exact HB.out | apply below_alloc | apply pw_below_drewN | apply below_drew1) | exact HB.out)⟩
        · rw [if_neg c14] at H
          have c14b0 : (t236 == 0) = false := beq_eq_false_iff_ne.mpr c14
          have c14b1 : (t236 != 0) = true := bne_iff_ne.mpr c14
          obtain rfl := Option.some.inj H
          go_enter Try.func17, Try.ntmps17
          go_wp2_with (first | ((with_reducible refine gate_callee (f := 39) rfl ?_); refine goesL_ (some 19) rfl rfl Try.func39 (by kernel_rfl) rfl #[] rfl (by (try simp only [List.map_toArray, List.map_cons, List.map_nil]); first | done | rfl | (simp only [List.length_drop, List.length_take]; rfl)) ?_; (with_reducible refine (tartanlaw03_works.calls  true _ A4.out).mono ?_); rintro e w46 ⟨rfl, hb⟩; refine ⟨_, rfl, ?_⟩; have n0_ := Aside0.mk (below_step (by repeat (first | (with_reducible first | exact HB.out | apply below_alloc | apply pw_below_drewN | apply below_drew1) | exact HB.out)) hb); clear HB; have HB := n0_; clear n0_; (try clear hb); (try clear hb2); (try clear hk); (try clear hi)) | ((with_reducible refine gate_callee (f := 40) rfl ?_); refine goesL_ (some 29) rfl rfl Try.func40 (by kernel_rfl) rfl #[.string a0, .int .u8 a1] rfl (by (try simp only [List.map_toArray, List.map_cons, List.map_nil]); first | done | rfl | (simp only [List.length_drop, List.length_take]; rfl)) ?_; (with_reducible refine (csv_Parse.calls a0 a1 t230 t231 t232 _ A8.out).mono ?_); rintro e w47 ⟨v233, rfl, ho0, hb⟩; refine ⟨_, rfl, ?_⟩; have n0_ := Aside0.mk (Kd.S_lower ho0 (below_size (by repeat (first | (with_reducible first | exact HB.out | apply below_alloc | apply pw_below_drewN | apply below_drew1) | exact HB.out)))); have n1_ := Aside0.mk (below_step (by repeat (first | (with_reducible first | exact HB.out | apply below_alloc | apply pw_below_drewN | apply below_drew1) | exact HB.out)) hb); clear HB; have HO234 := n0_; have HB := n1_; clear n0_ n1_; (try clear hb); (try clear hb2); (try clear hk); (try clear hi); (try clear ho0); obtain ⟨Ao48, co48, eo48⟩ := Kd.S_slice HO234.out; subst eo48) | ((with_reducible refine gate_callee (f := 44) rfl ?_); refine goesL_ (some 55) rfl rfl Try.func44 (by kernel_rfl) rfl #[.slice Ao48 t230.length co48, .int .u8 a1, .bool a2] rfl (by (try simp only [List.map_toArray, List.map_cons, List.map_nil]); first | done | rfl | (simp only [List.length_drop, List.length_take]; rfl)) ?_; (with_reducible refine (csv_Print.calls _ _ t230 a1 a2 t235 t236 _ ?side1 ?side2 A10.out).mono ?_); (case side1 => repeat (first | exact (Kd.S_reads' HO234.out).2.2 | (with_reducible refine Kd.C_alloc ?_ _) | (with_reducible refine Kd.C_drewN ?_ _) | (with_reducible refine Kd.C_drew ?_))); (case side2 => exact (Kd.S_reads' HO234.out).2.1); rintro e w49 ⟨rfl, hb⟩; refine ⟨_, rfl, ?_⟩; have n0_ := Aside0.mk (Kd.S_below (by (with_reducible repeat (first | apply Kd.S_alloc | apply Kd.S_drewN | apply Kd.S_drew)); exact HO234.out) hb); have n1_ := Aside0.mk (below_step (by repeat (first | (with_reducible first | exact HB.out | apply below_alloc | apply pw_below_drewN | apply below_drew1) | exact HB.out)) hb); clear HO234; clear HB; have HO234 := n0_; have HB := n1_; clear n0_ n1_; (try clear hb); (try clear hb2); (try clear hk); (try clear hi)) | ((with_reducible refine gate_callee (f := 40) rfl ?_); refine goesL_ (some 61) rfl rfl Try.func40 (by kernel_rfl) rfl #[.string t235, .int .u8 a1] rfl (by (try simp only [List.map_toArray, List.map_cons, List.map_nil]); first | done | rfl | (simp only [List.length_drop, List.length_take]; rfl)) ?_; (with_reducible refine (csv_Parse.calls t235 a1 t237 t238 t239 _ A11.out).mono ?_); rintro e w50 ⟨v240, rfl, ho0, hb⟩; refine ⟨_, rfl, ?_⟩; have n0_ := Aside0.mk (Kd.S_elder' (by (with_reducible repeat (first | apply Kd.S_alloc | apply Kd.S_drewN | apply Kd.S_drew)); exact HO234.out) (Kd.S_base ho0) hb); have n1_ := Aside0.mk (Kd.S_lower (Kd.S_new' ho0 (Kd.S_lt (by (with_reducible repeat (first | apply Kd.S_alloc | apply Kd.S_drewN | apply Kd.S_drew)); exact HO234.out))) (below_size (by repeat (first | (with_reducible first | exact HB.out | apply below_alloc | apply pw_below_drewN | apply below_drew1) | exact HB.out)))); have n2_ := Aside0.mk (below_step (by repeat (first | (with_reducible first | exact HB.out | apply below_alloc | apply pw_below_drewN | apply below_drew1) | exact HB.out)) hb); clear HO234; clear HB; have HO234 := n0_; have HO241 := n1_; have HB := n2_; clear n0_ n1_ n2_; (try clear hb); (try clear hb2); (try clear hk); (try clear hi); (try clear ho0); obtain ⟨Ao51, co51, eo51⟩ := Kd.S_slice HO241.out; subst eo51) | ((with_reducible refine gate_callee (f := 42) rfl ?_); refine goesL_ (some 67) rfl rfl Try.func42 (by kernel_rfl) rfl #[.slice Ao48 t230.length co48, .slice Ao51 t237.length co51] rfl (by (try simp only [List.map_toArray, List.map_cons, List.map_nil]); first | done | rfl | (simp only [List.length_drop, List.length_take]; rfl)) ?_; (with_reducible refine (tartanref03_Same.calls k _ _ t230 _ _ t237 t242 _ ?side1 ?side2 ?side3 ?side4 A12.out).mono ?_); (case side1 => repeat (first | exact (Kd.S_reads' HO234.out).2.2 | (with_reducible refine Kd.C_alloc ?_ _) | (with_reducible refine Kd.C_drewN ?_ _) | (with_reducible refine Kd.C_drew ?_))); (case side2 => exact (Kd.S_reads' HO234.out).2.1); (case side3 => repeat (first | exact (Kd.S_reads' HO241.out).2.2 | (with_reducible refine Kd.C_alloc ?_ _) | (with_reducible refine Kd.C_drewN ?_ _) | (with_reducible refine Kd.C_drew ?_))); (case side4 => exact (Kd.S_reads' HO241.out).2.1); rintro e w' ⟨rfl, ⟨nd, rfl⟩⟩; refine ⟨_, rfl, ?_⟩) | ((with_reducible refine gate_callee (f := 44) rfl ?_); refine goesL_ (some 71) rfl rfl Try.func44 (by kernel_rfl) rfl #[.slice Ao48 t230.length co48, .int .u8 a1, .bool false] rfl (by (try simp only [List.map_toArray, List.map_cons, List.map_nil]); first | done | rfl | (simp only [List.length_drop, List.length_take]; rfl)) ?_; (with_reducible refine (csv_Print.calls _ _ t230 a1 false t243 t244 _ ?side1 ?side2 A13.out).mono ?_); (case side1 => repeat (first | exact (Kd.S_reads' HO234.out).2.2 | (with_reducible refine Kd.C_alloc ?_ _) | (with_reducible refine Kd.C_drewN ?_ _) | (with_reducible refine Kd.C_drew ?_))); (case side2 => exact (Kd.S_reads' HO234.out).2.1); rintro e w52 ⟨rfl, hb⟩; refine ⟨_, rfl, ?_⟩; have n0_ := Aside0.mk (Kd.S_below (by (with_reducible repeat (first | apply Kd.S_alloc | apply Kd.S_drewN | apply Kd.S_drew)); exact HO234.out) hb); have n1_ := Aside0.mk (Kd.S_below (by (with_reducible repeat (first | apply Kd.S_alloc | apply Kd.S_drewN | apply Kd.S_drew)); exact HO241.out) hb); have n2_ := Aside0.mk (below_step (by repeat (first | (with_reducible first | exact HB.out | apply below_alloc | apply pw_below_drewN | apply below_drew1) | exact HB.out)) hb); clear HO234; clear HO241; clear HB; have HO234 := n0_; have HO241 := n1_; have HB := n2_; clear n0_ n1_ n2_; (try clear hb); (try clear hb2); (try clear hk); (try clear hi)))
          go_ret
          exact ⟨by first | rfl | (simp [errW_none, errW_some] <;> rfl) | (simp [*, errW_none, errW_some] <;> rfl), by repeat (first | (with_reducible first | exact HB.out | apply below_alloc | apply pw_below_drewN | apply below_drew1) | exact HB.out)⟩
      · rw [if_neg c9] at H
        have c9b0 : (t232 == 0) = false := beq_eq_false_iff_ne.mpr c9
        have c9b1 : (t232 != 0) = true := bne_iff_ne.mpr c9
        by_cases c53 : (t230.length : Int) = 0
        · rw [if_pos c53] at H
          have c53b0 : ((t230.length : Int) == 0) = true := beq_iff_eq.mpr c53
          have c53b1 : ((t230.length : Int) != 0) = false := bne_eq_false_iff_eq.mpr c53
          clear c53
          by_cases c54 : t231 ≥ 0
          · rw [if_pos c54] at H
            have c54b0 : decide (0 ≤ t231) = true := decide_eq_true c54
            clear c54
            obtain rfl := Option.some.inj H
            go_enter Try.func17, Try.ntmps17
            go_wp2_with (first | ((with_reducible refine gate_callee (f := 39) rfl ?_); refine goesL_ (some 19) rfl rfl Try.func39 (by kernel_rfl) rfl #[] rfl (by (try simp only [List.map_toArray, List.map_cons, List.map_nil]); first | done | rfl | (simp only [List.length_drop, List.length_take]; rfl)) ?_; (with_reducible refine (tartanlaw03_works.calls  true _ A4.out).mono ?_); rintro e w55 ⟨rfl, hb⟩; refine ⟨_, rfl, ?_⟩; have n0_ := Aside0.mk (below_step (by repeat (first | (with_reducible first | exact HB.out | apply below_alloc | apply pw_below_drewN | apply below_drew1) | exact HB.out)) hb); clear HB; have HB := n0_; clear n0_; (try clear hb); (try clear hb2); (try clear hk); (try clear hi)) | ((with_reducible refine gate_callee (f := 40) rfl ?_); refine goesL_ (some 29) rfl rfl Try.func40 (by kernel_rfl) rfl #[.string a0, .int .u8 a1] rfl (by (try simp only [List.map_toArray, List.map_cons, List.map_nil]); first | done | rfl | (simp only [List.length_drop, List.length_take]; rfl)) ?_; (with_reducible refine (csv_Parse.calls a0 a1 t230 t231 t232 _ A8.out).mono ?_); rintro e w56 ⟨v233, rfl, ho0, hb⟩; refine ⟨_, rfl, ?_⟩; have n0_ := Aside0.mk (Kd.S_lower ho0 (below_size (by repeat (first | (with_reducible first | exact HB.out | apply below_alloc | apply pw_below_drewN | apply below_drew1) | exact HB.out)))); have n1_ := Aside0.mk (below_step (by repeat (first | (with_reducible first | exact HB.out | apply below_alloc | apply pw_below_drewN | apply below_drew1) | exact HB.out)) hb); clear HB; have HO234 := n0_; have HB := n1_; clear n0_ n1_; (try clear hb); (try clear hb2); (try clear hk); (try clear hi); (try clear ho0); obtain ⟨Ao57, co57, eo57⟩ := Kd.S_slice HO234.out; subst eo57))
            go_ret
            exact ⟨by first | rfl | (simp [errW_none, errW_some] <;> rfl) | (simp [*, errW_none, errW_some] <;> rfl), by repeat (first | (with_reducible first | exact HB.out | apply below_alloc | apply pw_below_drewN | apply below_drew1) | exact HB.out)⟩
          · rw [if_neg c54] at H
            have c54b0 : decide (0 ≤ t231) = false := decide_eq_false c54
            clear c54
            obtain rfl := Option.some.inj H
            go_enter Try.func17, Try.ntmps17
            go_wp2_with (first | ((with_reducible refine gate_callee (f := 39) rfl ?_); refine goesL_ (some 19) rfl rfl Try.func39 (by kernel_rfl) rfl #[] rfl (by (try simp only [List.map_toArray, List.map_cons, List.map_nil]); first | done | rfl | (simp only [List.length_drop, List.length_take]; rfl)) ?_; (with_reducible refine (tartanlaw03_works.calls  true _ A4.out).mono ?_); rintro e w58 ⟨rfl, hb⟩; refine ⟨_, rfl, ?_⟩; have n0_ := Aside0.mk (below_step (by repeat (first | (with_reducible first | exact HB.out | apply below_alloc | apply pw_below_drewN | apply below_drew1) | exact HB.out)) hb); clear HB; have HB := n0_; clear n0_; (try clear hb); (try clear hb2); (try clear hk); (try clear hi)) | ((with_reducible refine gate_callee (f := 40) rfl ?_); refine goesL_ (some 29) rfl rfl Try.func40 (by kernel_rfl) rfl #[.string a0, .int .u8 a1] rfl (by (try simp only [List.map_toArray, List.map_cons, List.map_nil]); first | done | rfl | (simp only [List.length_drop, List.length_take]; rfl)) ?_; (with_reducible refine (csv_Parse.calls a0 a1 t230 t231 t232 _ A8.out).mono ?_); rintro e w59 ⟨v233, rfl, ho0, hb⟩; refine ⟨_, rfl, ?_⟩; have n0_ := Aside0.mk (Kd.S_lower ho0 (below_size (by repeat (first | (with_reducible first | exact HB.out | apply below_alloc | apply pw_below_drewN | apply below_drew1) | exact HB.out)))); have n1_ := Aside0.mk (below_step (by repeat (first | (with_reducible first | exact HB.out | apply below_alloc | apply pw_below_drewN | apply below_drew1) | exact HB.out)) hb); clear HB; have HO234 := n0_; have HB := n1_; clear n0_ n1_; (try clear hb); (try clear hb2); (try clear hk); (try clear hi); (try clear ho0); obtain ⟨Ao60, co60, eo60⟩ := Kd.S_slice HO234.out; subst eo60))
            go_ret
            exact ⟨by first | rfl | (simp [errW_none, errW_some] <;> rfl) | (simp [*, errW_none, errW_some] <;> rfl), by repeat (first | (with_reducible first | exact HB.out | apply below_alloc | apply pw_below_drewN | apply below_drew1) | exact HB.out)⟩
        · rw [if_neg c53] at H
          have c53b0 : ((t230.length : Int) == 0) = false := beq_eq_false_iff_ne.mpr c53
          have c53b1 : ((t230.length : Int) != 0) = true := bne_iff_ne.mpr c53
          have c53b2 : ¬ (t230 = []) := fun h_ => c53 (by rw [h_]; rfl)
          obtain rfl := Option.some.inj H
          go_enter Try.func17, Try.ntmps17
          go_wp2_with (first | ((with_reducible refine gate_callee (f := 39) rfl ?_); refine goesL_ (some 19) rfl rfl Try.func39 (by kernel_rfl) rfl #[] rfl (by (try simp only [List.map_toArray, List.map_cons, List.map_nil]); first | done | rfl | (simp only [List.length_drop, List.length_take]; rfl)) ?_; (with_reducible refine (tartanlaw03_works.calls  true _ A4.out).mono ?_); rintro e w61 ⟨rfl, hb⟩; refine ⟨_, rfl, ?_⟩; have n0_ := Aside0.mk (below_step (by repeat (first | (with_reducible first | exact HB.out | apply below_alloc | apply pw_below_drewN | apply below_drew1) | exact HB.out)) hb); clear HB; have HB := n0_; clear n0_; (try clear hb); (try clear hb2); (try clear hk); (try clear hi)) | ((with_reducible refine gate_callee (f := 40) rfl ?_); refine goesL_ (some 29) rfl rfl Try.func40 (by kernel_rfl) rfl #[.string a0, .int .u8 a1] rfl (by (try simp only [List.map_toArray, List.map_cons, List.map_nil]); first | done | rfl | (simp only [List.length_drop, List.length_take]; rfl)) ?_; (with_reducible refine (csv_Parse.calls a0 a1 t230 t231 t232 _ A8.out).mono ?_); rintro e w62 ⟨v233, rfl, ho0, hb⟩; refine ⟨_, rfl, ?_⟩; have n0_ := Aside0.mk (Kd.S_lower ho0 (below_size (by repeat (first | (with_reducible first | exact HB.out | apply below_alloc | apply pw_below_drewN | apply below_drew1) | exact HB.out)))); have n1_ := Aside0.mk (below_step (by repeat (first | (with_reducible first | exact HB.out | apply below_alloc | apply pw_below_drewN | apply below_drew1) | exact HB.out)) hb); clear HB; have HO234 := n0_; have HB := n1_; clear n0_ n1_; (try clear hb); (try clear hb2); (try clear hk); (try clear hi); (try clear ho0); obtain ⟨Ao63, co63, eo63⟩ := Kd.S_slice HO234.out; subst eo63))
          go_ret
          exact ⟨by first | rfl | (simp [errW_none, errW_some] <;> rfl) | (simp [*, errW_none, errW_some] <;> rfl), by repeat (first | (with_reducible first | exact HB.out | apply below_alloc | apply pw_below_drewN | apply below_drew1) | exact HB.out)⟩
  · replace c5 := Bool.eq_false_iff.mpr c5
    subst c5
    have H1 : (some false) = some r := by rw [if_neg (show ¬ (false = true) by decide)] at H; exact H
    clear H
    have H := H1
    clear H1
    obtain rfl := Option.some.inj H
    go_enter Try.func17, Try.ntmps17
    go_wp2_with (first | ((with_reducible refine gate_callee (f := 39) rfl ?_); refine goesL_ (some 19) rfl rfl Try.func39 (by kernel_rfl) rfl #[] rfl (by (try simp only [List.map_toArray, List.map_cons, List.map_nil]); first | done | rfl | (simp only [List.length_drop, List.length_take]; rfl)) ?_; (with_reducible refine (tartanlaw03_works.calls  false _ A4.out).mono ?_); rintro e w64 ⟨rfl, hb⟩; refine ⟨_, rfl, ?_⟩; have n0_ := Aside0.mk (below_step (by repeat (first | (with_reducible first | exact HB.out | apply below_alloc | apply pw_below_drewN | apply below_drew1) | exact HB.out)) hb); clear HB; have HB := n0_; clear n0_; (try clear hb); (try clear hb2); (try clear hk); (try clear hi)))
    go_ret
    exact ⟨by first | rfl | (simp [errW_none, errW_some] <;> rfl) | (simp [*, errW_none, errW_some] <;> rfl), by repeat (first | (with_reducible first | exact HB.out | apply below_alloc | apply pw_below_drewN | apply below_drew1) | exact HB.out)⟩

/-- THE ONE PURE STATEMENT of tartanlaw03_CsvAgain: yours. -/
def tartanlaw03_CsvAgain.Pure : Prop := ∀ (a0 : ByteArray) (a1 : Int) (a2 : Bool), a0.size ≤ 140737488351232 → (Lit.int .u8 a1).wf = true → ∃ k, tartanlaw03_CsvAgain.f k a0 a1 a2 = some true
theorem tartanlaw03_CsvAgain.walk (P : tartanlaw03_CsvAgain.Pure) (a0 : ByteArray) (a1 : Int) (a2 : Bool) (w : World) (w0 : a0.size ≤ 140737488351232) (w1 : (Lit.int .u8 a1).wf = true) :
    Calls Try.prog 17 #[.string a0, .int .u8 a1, .bool a2] w fun e w' => e = .returned (.bool true) ∧ Below w.heap.size w w' := by
  obtain ⟨k, h⟩ := P a0 a1 a2 w0 w1
  refine (tartanlaw03_CsvAgain.calls k a0 a1 a2 true w h).mono ?_
  rintro e w' ⟨rfl, hd⟩
  exact ⟨rfl, hd⟩

end Go.Proofs.Ytggodagdfldndaa.Q.L.Z

/-! What csv.Print prints: the records as they are written, if all are such as csv takes. No program in sight. -/
namespace Go.Proofs.Ytggodagdfldndaa.Q.L
open Go.RowKit
theorem tooBig_false (r : List ByteArray) : tooBig r = false ↔ r.length ≤ 128 ∧ ∀ y ∈ r, y.size ≤ 4096 := by
  unfold tooBig
  rw [Bool.or_eq_false_iff, List.any_eq_false, decide_eq_false_iff_not]
  constructor
  · rintro ⟨h1, h2⟩
    refine ⟨by omega, fun y hy => ?_⟩
    have := h2 y hy
    unfold bigger at this
    simp only [decide_eq_true_eq] at this
    omega
  · rintro ⟨h1, h2⟩
    refine ⟨by omega, fun y hy => ?_⟩
    have := h2 y hy
    unfold bigger
    simp only [decide_eq_true_eq]
    omega
theorem printLoop_good (c : UInt8) (crlf : Bool) : ∀ (l : List (List ByteArray)) (e : Int) (acc : Bs), (∀ r ∈ l, RowOk r) → printLoop c crlf l e acc = (e, acc ++ recsR c.toNat c (l.map fun r => (r, crlf)))
  | [], e, acc, _ => by simp [printLoop, recsR]
  | r :: l, e, acc, h => by
    obtain ⟨h1, h2, h3⟩ := h r (by simp)
    rw [printLoop, if_neg (fun e => h1 (List.length_eq_zero_iff.1 e)), if_neg (by rw [(tooBig_false r).2 ⟨h2, h3⟩]; decide), printLoop_good c crlf l e _ (fun q hq => h q (List.mem_cons_of_mem _ hq))]
    rw [List.map_cons, recsR]
    simp [writeB, cells]
theorem printLoop_ok (c : UInt8) (crlf : Bool) : ∀ (l : List (List ByteArray)) (e : Int) (acc : Bs), (printLoop c crlf l e acc).1 = 0 → e = 0 ∧ ∀ r ∈ l, RowOk r
  | [], e, acc, h => ⟨h, by simp⟩
  | r :: l, e, acc, h => by
    rw [printLoop] at h
    split at h
    · cases h
    · rename_i h1
      split at h
      · have := (printLoop_ok c crlf l _ _ h).1
        cases this
      · rename_i h2
        obtain ⟨g1, g2⟩ := printLoop_ok c crlf l _ _ h
        refine ⟨g1, fun q hq => ?_⟩
        rcases List.mem_cons.1 hq with rfl | hq
        · obtain ⟨a1, a2⟩ := (tooBig_false q).1 (by simpa using h2)
          exact ⟨fun e => h1 (by rw [e]; rfl), a1, a2⟩
        · exact g2 q hq
/-- Records that are printed: their text. -/
def textR (d : Int) (crlf : Bool) (l : List (List ByteArray)) : Bs := recsR d (UInt8.ofNat d.toNat) (l.map fun r => (r, crlf))
theorem byteI {d : Int} (h : (Lit.int .u8 d).wf = true) : ((UInt8.ofNat d.toNat).toNat : Int) = d := by
  obtain ⟨c, rfl⟩ := delim_byte d h
  simp
theorem byteI0 {d : Int} (h : (Lit.int .u8 d).wf = true) : 0 ≤ d ∧ d ≤ 255 := by
  obtain ⟨c, rfl⟩ := delim_byte d h
  have := c.toNat_lt
  omega
theorem printF_ok (l : List (List ByteArray)) (d : Int) (crlf : Bool) (hd : (Lit.int .u8 d).wf = true) (s : ByteArray) (h : printF l d crlf = (s, 0)) : goodI d = true ∧ (∀ r ∈ l, RowOk r) ∧ l.length ≤ 2048 ∧ s = ofBs (textR d crlf l) := by
  have hb := byteI hd
  cases hg : goodI d with
  | false => unfold printF at h; rw [hg, if_neg (by decide)] at h; simp at h
  | true =>
    obtain ⟨⟨e, acc⟩, hp⟩ : ∃ p, printLoop (UInt8.ofNat d.toNat) crlf l (if 2048 < l.length then 7 else 0) [] = p := ⟨_, rfl⟩
    rw [print_post l d crlf e acc hg hp] at h
    by_cases h0 : e = 0
    · subst h0
      obtain ⟨g1, g2⟩ := printLoop_ok _ _ _ _ _ (by rw [hp])
      have hl : l.length ≤ 2048 := by
        by_cases e : 2048 < l.length
        · rw [if_pos e] at g1; cases g1
        · omega
      rw [printLoop_good _ _ _ _ _ g2, List.nil_append, hb] at hp
      rw [if_pos rfl] at h
      split at h
      · simp at h
      · refine ⟨rfl, g2, hl, ?_⟩
        rw [← (Prod.mk.inj h).1, ← (Prod.mk.inj hp).2]; rfl
    · rw [if_neg h0] at h
      exact absurd (Prod.mk.inj h).2 h0
theorem printF_bad (l : List (List ByteArray)) (d : Int) (crlf : Bool) (s : ByteArray) (e : Int) (h : printF l d crlf = (s, e)) (he : e ≠ 0) : s = ⟨#[]⟩ := by
  cases hg : goodI d with
  | false => unfold printF at h; rw [hg, if_neg (by decide)] at h; exact (Prod.mk.inj h).1.symm
  | true =>
    obtain ⟨⟨e2, acc⟩, hp⟩ : ∃ p, printLoop (UInt8.ofNat d.toNat) crlf l (if 2048 < l.length then 7 else 0) [] = p := ⟨_, rfl⟩
    rw [print_post l d crlf e2 acc hg hp] at h
    split at h
    · split at h
      · exact (Prod.mk.inj h).1.symm
      · exact absurd (Prod.mk.inj h).2.symm he
    · exact (Prod.mk.inj h).1.symm
theorem printF_good (l : List (List ByteArray)) (d : Int) (crlf : Bool) (hd : (Lit.int .u8 d).wf = true) (hg : goodI d = true) (hr : ∀ r ∈ l, RowOk r) (hl : l.length ≤ 2048) (hs : (textR d crlf l).length ≤ 4194304) : printF l d crlf = (ofBs (textR d crlf l), 0) := by
  have hb := byteI hd
  have hp := printLoop_good (UInt8.ofNat d.toNat) crlf l (if 2048 < l.length then 7 else 0) [] hr
  have e0 : (if 2048 < l.length then (7 : Int) else 0) = 0 := if_neg (by omega)
  rw [print_post l d crlf _ _ hg hp, if_pos e0, List.nil_append, hb, if_neg (by unfold textR at hs; omega)]
  rfl
theorem print_f (l : List (List ByteArray)) (d : Int) (crlf : Bool) (hd : (Lit.int .u8 d).wf = true) (hl : l.length ≤ 5000) : csv_Print.f l d crlf = some (printF l d crlf) := by
  obtain ⟨h1, h2⟩ := byteI0 hd
  unfold csv_Print.f
  rw [if_pos ⟨hl, h1, h2⟩]
/-- What is printed is parsed back. -/
theorem text_back (l : List (List ByteArray)) (d : Int) (crlf : Bool) (hd : (Lit.int .u8 d).wf = true) (hg : goodI d = true) (hr : ∀ r ∈ l, RowOk r) (hl : l.length ≤ 2048) : parseF (textR d crlf l) d = (l, 0, 0) := by
  have := parse_rows d (UInt8.ofNat d.toNat) (byteI hd) hg (l.map fun r => (r, crlf)) (by
    intro p hp
    obtain ⟨r, hr2, rfl⟩ := List.mem_map.1 hp
    exact hr r hr2) (by rw [List.length_map]; exact hl)
  unfold textR
  rw [this, List.map_map]
  rw [show (Prod.fst ∘ fun r => ((r, crlf) : List ByteArray × Bool)) = id from rfl, List.map_id]
end Go.Proofs.Ytggodagdfldndaa.Q.L

/-! What the printed Lean functions of chapter 3 come to, with enough rounds; the document's examples hold. -/
namespace Go.Proofs.Ytggodagdfldndaa.Q.L.Z
open Go.RowKit Go.Proofs.YtggodagdfldndaaW.PrintWords Go.Proofs.YtggodagdfldndaaW.PrintLast Go.Proofs.Ytggodagdfldndaa.Q.L Go.Proofs.Ytggodagdfldndaa.Q
theorem parse_f (s : ByteArray) (d : Int) (hs : s.size ≤ 1048576) : csv_Parse.f s d = some (parseF (toBs s) d) := by
  unfold csv_Parse.f; rw [if_pos hs]
theorem works03 : tartanlaw03_works.f = some true := by
  unfold tartanlaw03_works.f
  rw [parse_f _ _ (by decide), parse_f _ _ (by decide), parse_f _ _ (by decide), print_f _ _ _ (by decide) (by decide)]
  decide +kernel
theorem rd_nat (l : List (List ByteArray)) (i : Nat) (h : i < l.length) : rd_L1 l (i : Int) = l[i] := by
  unfold rd_L1
  simp [h]
/-! ### are records alike? -/
theorem row_l0 (a b : List ByteArray) (hl : a.length = b.length) (hb : a.length ≤ 1000000) : ∀ (m k i : Nat), i + m = a.length → m < k → a.take i = b.take i → tartanref03_Row.l0 k a b i = some (decide (a = b)) := by
  intro m
  induction m with
  | zero =>
    intro k i hi hk he
    obtain ⟨k, rfl⟩ : ∃ q, k = q + 1 := ⟨k - 1, by omega⟩
    simp only [tartanref03_Row.l0]
    rw [List.take_of_length_le (by omega), List.take_of_length_le (by omega)] at he
    rw [if_neg (by omega), he]; simp
  | succ m ih =>
    intro k i hi hk he
    obtain ⟨k, rfl⟩ : ∃ q, k = q + 1 := ⟨k - 1, by omega⟩
    have h1 : i < a.length := by omega
    have h2 : i < b.length := by omega
    simp only [tartanref03_Row.l0]
    rw [if_pos (by omega), if_pos (by omega), if_pos (by omega), rdOf_nat a i h1, rdOf_nat b i h2, toList_toBs, toList_toBs]
    by_cases e : a[i] = b[i]
    · rw [if_pos (by rw [e]), show wrap64 ((i : Int) + 1) = ((i + 1 : Nat) : Int) from wrap_nat i 1 (by omega)]
      refine ih k (i + 1) (by omega) (by omega) ?_
      rw [List.take_add_one, List.take_add_one, he, List.getElem?_eq_getElem h1, List.getElem?_eq_getElem h2, e]
    · rw [if_neg (fun h => e (by rw [← ofBs_toBs a[i], h, ofBs_toBs])), decide_eq_false (fun h => e (by subst h; rfl))]
theorem row_f (a b : List ByteArray) (hb : a.length ≤ 1000000) (k : Nat) (hk : a.length < k) : tartanref03_Row.f k a b = some (decide (a = b)) := by
  unfold tartanref03_Row.f
  by_cases h : a.length = b.length
  · rw [if_pos (by omega)]
    exact row_l0 a b h hb a.length k 0 (by omega) hk (by simp)
  · rw [if_neg (by omega), decide_eq_false (fun e => h (by rw [e]))]
theorem same_l0 (a b : List (List ByteArray)) (hl : a.length = b.length) (hb : a.length ≤ 1000000) (B : Nat) (hB : ∀ r ∈ a, r.length ≤ B) (hB2 : B ≤ 1000000) : ∀ (m k i : Nat), i + m = a.length → m + B + 1 < k → a.take i = b.take i → tartanref03_Same.l0 k a b i = some (decide (a = b)) := by
  intro m
  induction m with
  | zero =>
    intro k i hi hk he
    obtain ⟨k, rfl⟩ : ∃ q, k = q + 1 := ⟨k - 1, by omega⟩
    simp only [tartanref03_Same.l0]
    rw [List.take_of_length_le (by omega), List.take_of_length_le (by omega)] at he
    rw [if_neg (by omega), he]; simp
  | succ m ih =>
    intro k i hi hk he
    obtain ⟨k, rfl⟩ : ∃ q, k = q + 1 := ⟨k - 1, by omega⟩
    have h1 : i < a.length := by omega
    have h2 : i < b.length := by omega
    have h3 := hB a[i] (List.getElem_mem h1)
    simp only [tartanref03_Same.l0]
    rw [if_pos (by omega), if_pos (by omega), if_pos (by omega), rd_nat a i h1, rd_nat b i h2, row_f _ _ (by omega) k (by omega), Option.bind_some]
    by_cases e : a[i] = b[i]
    · rw [if_pos (decide_eq_true e), show wrap64 ((i : Int) + 1) = ((i + 1 : Nat) : Int) from wrap_nat i 1 (by omega)]
      refine ih k (i + 1) (by omega) (by omega) ?_
      rw [List.take_add_one, List.take_add_one, he, List.getElem?_eq_getElem h1, List.getElem?_eq_getElem h2, e]
    · rw [if_neg (by rw [decide_eq_false e]; decide), decide_eq_false (fun h => e (by subst h; rfl))]
theorem same_f (a b : List (List ByteArray)) (hb : a.length ≤ 1000000) (B : Nat) (hB : ∀ r ∈ a, r.length ≤ B) (hB2 : B ≤ 1000000) (k : Nat) (hk : a.length + B + 1 < k) : tartanref03_Same.f k a b = some (decide (a = b)) := by
  unfold tartanref03_Same.f
  by_cases h : a.length = b.length
  · rw [if_pos (by omega)]
    exact same_l0 a b h hb B hB hB2 a.length k 0 (by omega) hk (by simp)
  · rw [if_neg (by omega), decide_eq_false (fun e => h (by rw [e]))]
/-! ### are they few? -/
/-- How many bytes cells count for. -/
def weigh : List ByteArray → Nat
  | [] => 0
  | x :: r => x.size + 1 + weigh r
def weighL : List (List ByteArray) → Nat
  | [] => 0
  | r :: l => weigh r + weighL l
/-- So few that they are looked at. -/
def FewP (l : List (List ByteArray)) : Prop := l.length ≤ 60 ∧ (∀ r ∈ l, r.length ≤ 60) ∧ weighL l ≤ 8000
def Sized (l : List (List ByteArray)) : Prop := ∀ r ∈ l, ∀ x ∈ r, x.size ≤ 140737488351232
theorem weigh_take (r : List ByteArray) (j : Nat) (h : j < r.length) : weigh (r.take (j + 1)) = weigh (r.take j) + (r[j].size + 1) := by
  induction r generalizing j with
  | nil => cases h
  | cons x r ih =>
    cases j with
    | zero => simp [weigh]
    | succ j =>
      have := ih j (by simpa using h)
      simp only [List.take_succ_cons, weigh, List.getElem_cons_succ, this]
      omega
theorem weighL_take (l : List (List ByteArray)) (i : Nat) (h : i < l.length) : weighL (l.take (i + 1)) = weighL (l.take i) + weigh l[i] := by
  induction l generalizing i with
  | nil => cases h
  | cons x r ih =>
    cases i with
    | zero => simp [weighL]
    | succ i =>
      have := ih i (by simpa using h)
      simp only [List.take_succ_cons, weighL, List.getElem_cons_succ, this]
      omega
theorem few_step (n s : Nat) (hn : n ≤ 8000) (hs : s ≤ 140737488351232) : wrap64 (wrap64 ((n : Int) + (s : Int)) + 1) = ((n + s + 1 : Nat) : Int) := by
  unfold wrap64; omega
/-- Few's two loops: true only if all that follows is few. -/
theorem few_loops (l : List (List ByteArray)) (hl : l.length ≤ 60) (hs : Sized l) : ∀ (m : Nat),
    (∀ (k i n : Nat), i + m = l.length → m * 62 + 1 < k → n = weighL (l.take i) → n ≤ 8000 → (∀ r ∈ l.take i, r.length ≤ 60) → ∃ b, tartanref03_Few.l0 k l (n : Int) (i : Int) = some b ∧ (b = true → FewP l)) := by
  intro m
  induction m with
  | zero =>
    intro k i n hi hk hn hn2 hr
    obtain ⟨k, rfl⟩ : ∃ q, k = q + 1 := ⟨k - 1, by omega⟩
    refine ⟨true, ?_, fun _ => ?_⟩
    · simp only [tartanref03_Few.l0]
      rw [if_neg (by omega)]
    · rw [List.take_of_length_le (by omega)] at hn hr
      exact ⟨hl, hr, by omega⟩
  | succ m ih =>
    intro k i n hi hk hn hn2 hr
    obtain ⟨k, rfl⟩ : ∃ q, k = q + 1 := ⟨k - 1, by omega⟩
    have h1 : i < l.length := by omega
    simp only [tartanref03_Few.l0]
    rw [if_pos (by omega), if_pos (by omega), rd_nat l i h1]
    by_cases h60 : (l[i].length : Int) > 60
    · exact ⟨false, by rw [if_pos h60], fun h => by cases h⟩
    · rw [if_neg h60]
      have inner : ∀ (m2 k2 j n2 : Nat), j + m2 = l[i].length → m * 62 + m2 + 2 < k2 → n2 = weighL (l.take i) + weigh (l[i].take j) → n2 ≤ 8000 → ∃ b, tartanref03_Few.l1 k2 l (n2 : Int) (i : Int) (j : Int) = some b ∧ (b = true → FewP l) := by
        intro m2
        induction m2 with
        | zero =>
          intro k2 j n2 hj hk2 hn3 hn4
          obtain ⟨k2, rfl⟩ : ∃ q, k2 = q + 1 := ⟨k2 - 1, by omega⟩
          simp only [tartanref03_Few.l1]
          rw [if_pos (by omega), if_pos (by omega), rd_nat l i h1, if_neg (by omega), show wrap64 ((i : Int) + 1) = ((i + 1 : Nat) : Int) from wrap_nat i 1 (by omega)]
          refine ih k2 (i + 1) n2 (by omega) (by omega) ?_ hn4 ?_
          · rw [weighL_take l i h1, hn3, show l[i].take j = l[i] from List.take_of_length_le (by omega)]
          · intro r hr2
            rw [List.take_add_one, List.getElem?_eq_getElem h1] at hr2
            simp only [Option.toList_some, List.mem_append, List.mem_singleton] at hr2
            rcases hr2 with hr2 | rfl
            · exact hr r hr2
            · omega
        | succ m2 ih2 =>
          intro k2 j n2 hj hk2 hn3 hn4
          obtain ⟨k2, rfl⟩ : ∃ q, k2 = q + 1 := ⟨k2 - 1, by omega⟩
          have h2 : j < l[i].length := by omega
          have hsz := hs l[i] (List.getElem_mem h1) l[i][j] (List.getElem_mem h2)
          simp only [tartanref03_Few.l1]
          rw [if_pos (by omega), if_pos (by omega), rd_nat l i h1, if_pos (by omega), if_pos (by omega), rdOf_nat _ j h2]
          rw [few_step n2 l[i][j].size hn4 hsz]
          by_cases h8 : ((n2 + l[i][j].size + 1 : Nat) : Int) > 8000
          · exact ⟨false, by rw [if_pos h8], fun h => by cases h⟩
          · rw [if_neg h8, show wrap64 ((j : Int) + 1) = ((j + 1 : Nat) : Int) from wrap_nat j 1 (by omega)]
            exact ih2 k2 (j + 1) _ (by omega) (by omega) (by rw [weigh_take _ j h2, hn3]; omega) (by omega)
      exact inner l[i].length k 0 n (by omega) (by omega) (by rw [hn]; simp [weigh]) hn2
theorem few_f (l : List (List ByteArray)) (hs : Sized l) (k : Nat) (hk : 4000 < k) : ∃ b, tartanref03_Few.f k l = some b ∧ (b = true → FewP l) := by
  unfold tartanref03_Few.f
  by_cases h : (l.length : Int) > 60
  · exact ⟨false, by rw [if_pos h], fun h => by cases h⟩
  · rw [if_neg h]
    exact few_loops l (by omega) hs l.length k 0 0 (by omega) (by omega) rfl (by omega) (by simp)
end Go.Proofs.Ytggodagdfldndaa.Q.L.Z

/-! Few records have short texts. No program in sight. -/
namespace Go.Proofs.Ytggodagdfldndaa.Q.L.Z
open Go.RowKit Go.Proofs.Ytggodagdfldndaa.Q.L
theorem costR_weigh (d : Int) : ∀ r : List ByteArray, costR d r ≤ 3 * weigh r
  | [] => Nat.le_refl _
  | x :: r => by
    have h1 := costR_weigh d r
    have h2 := put_length (toBs x) d
    rw [size_toBs] at h2
    simp only [costR, weigh]
    omega
theorem costL_weigh (d : Int) : ∀ l : List (List ByteArray), costL d l ≤ 3 * weighL l
  | [] => Nat.le_refl _
  | r :: l => by
    have h1 := costL_weigh d l
    have h2 := costR_weigh d r
    simp only [costL, weighL]
    omega
theorem textR_length (d : Int) (crlf : Bool) (l : List (List ByteArray)) (hr : ∀ r ∈ l, RowOk r) : (textR d crlf l).length = costL d l + (if crlf = true then l.length else 0) := recsR_cost d _ crlf l hr
theorem few_text (d : Int) (crlf : Bool) (l : List (List ByteArray)) (hf : FewP l) (hr : ∀ r ∈ l, RowOk r) : (textR d crlf l).length ≤ 24060 := by
  have h1 := textR_length d crlf l hr
  have h2 := costL_weigh d l
  obtain ⟨h3, _, h4⟩ := hf
  rw [h1]
  split <;> omega
end Go.Proofs.Ytggodagdfldndaa.Q.L.Z

/-! What is parsed is printed, and parsed, the same; it is no longer then, but for a break: for every input the law answers true. Conditions: none. -/
namespace Go.Proofs.Ytggodagdfldndaa.Pure
open Go.RowKit Go.Proofs.Ytggodagdfldndaa.Q Go.Proofs.Ytggodagdfldndaa.Q.L Go.Proofs.Ytggodagdfldndaa.Q.L.Z Go.Proofs.YtggodagdfldndaaW.PrintWords Go.Proofs.YtggodagdfldndaaW.PrintLast

theorem CsvAgain : tartanlaw03_CsvAgain.Pure := by
  intro s d crlf _ hd
  refine ⟨5000, ?_⟩
  unfold tartanlaw03_CsvAgain.f
  rw [works03, Option.bind_some, if_pos rfl]
  by_cases hs : (s.size : Int) > 3000
  · rw [if_pos hs]
  · rw [if_neg hs, parse_f s d (by omega), Option.bind_some]
    obtain ⟨⟨l, p, e⟩, hp⟩ : ∃ q, parseF (toBs s) d = q := ⟨_, rfl⟩
    rw [hp]
    dsimp only
    by_cases he : e = 0
    · subst he
      obtain ⟨hg, rfl, hr, hl, hc⟩ := parse_valid _ _ _ _ hp
      rw [size_toBs] at hc
      have h1 : (textR d crlf l).length ≤ 6000 := by
        rw [textR_length d crlf l hr]; split <;> omega
      have h2 : (textR d false l).length ≤ s.size + 1 := by
        rw [textR_length d false l hr, if_neg (by decide)]; omega
      rw [if_pos rfl, print_f l d crlf hd (by omega), Option.bind_some, printF_good l d crlf hd hg hr hl (by omega)]
      dsimp only
      rw [parse_f _ _ (by rw [size_ofBs]; omega), Option.bind_some, toBs_ofBs, text_back l d crlf hd hg hr hl]
      dsimp only
      rw [same_f l l (by omega) 128 (fun r h => (hr r h).2.1) (by omega) 5000 (by omega), Option.bind_some, print_f l d false hd (by omega), Option.bind_some, printF_good l d false hd hg hr hl (by omega)]
      dsimp only
      rw [if_pos rfl, if_pos rfl, if_pos (decide_eq_true rfl), if_pos rfl, size_ofBs, show wrap64 ((s.size : Int) + 1) = ((s.size + 1 : Nat) : Int) from wrap_nat _ 1 (by omega), decide_eq_true (by omega)]
    · obtain ⟨rfl, h1, h2⟩ := parse_fault _ _ _ _ _ hp he
      rw [size_toBs] at h2
      rw [if_neg he, if_pos (show (([] : List (List ByteArray)).length : Int) = 0 from rfl), if_pos h1, decide_eq_true h2]

end Go.Proofs.Ytggodagdfldndaa.Pure

namespace Go.Proofs.Ytggodagdfldndaa.csvAgain
open Go.ChangeShapes Go.WideShapes Go.ChangeAt Go.RowKit
open Go.ChangeMaps (open_string shut_string)
set_option linter.unusedVariables false
theorem own : ownKnob Try.prog.godebug = none := by kernel_rfl
set_option maxRecDepth 100000 in
theorem lifted (os : Os) (started : os.Started) (H : Type) (enc : TypeId × Value → H) :
    ReturnsInHanded {} Try.checked os 17 .any (Rows.csvAgainSpec.pre6 enc Try.prog Try.f17 Rows.csvAgainRow.domain false) (Rows.csvAgainSpec.post enc Try.prog Try.f17 false true false false) := by
  refine returnsInHanded_of_change_sized (C := Try.checked) own started (by kernel_rfl) Try.func17
    (ChangeSpec.witness6 (enc := enc) (C := Try.checked) false ⟨#[], #[.string ByteArray.empty, .int .u8 0, .bool false], []⟩ 8 (by kernel_rfl) (by kernel_rfl) (by kernel_rfl) (by kernel_rfl)) ?_
  intro W base args ds gs before hval0 hW hcnd hsz0 _
  have hsz : (DataW.weightsEach Try.prog (Try.f17.params.toList ++ Rows.csvAgainSpec.plain.varTypes Try.prog) (ds ++ gs)).all (· ≤ reachBytes) = true := hsz0
  have hval : ∀ (j : Nat) t v, Try.f17.params[j]? = some t → args[j]? = some v → Value.okWide Try.prog W .any base t v := hval0
  have hW' := hW
  obtain ⟨p, q, hA0, hV, rfl, hfz, hnd⟩ := hW
  have hA : DataW.TrodAll enc Try.prog W 0 (fun _ => true) true Try.f17.params.toList args.toList ds p := hA0
  rw [Try.params17] at hA hval hsz
  obtain ⟨v0, vs0, d0, ds0, p0, q0, hargs, rfl, rfl, h0, r0⟩ := trodAll_cons hA
  obtain ⟨v1, vs1, d1, ds1, p1, q1, rfl, rfl, rfl, h1, r1⟩ := trodAll_cons r0
  obtain ⟨v2, vs2, d2, ds2, p2, q2, rfl, rfl, rfl, h2, r2⟩ := trodAll_cons r1
  obtain ⟨rfl, rfl, rfl⟩ := trodAll_nil r2
  obtain rfl : args = #[v0, v1, v2] := by cases args; simp_all
  obtain ⟨rfl, rfl⟩ := trodVars_none hV
  obtain ⟨a0, rfl, rfl, rfl, y0⟩ := open_string Try.underlying9 (hval 0 9 v0 rfl rfl) h0
  have w0 : a0.size ≤ 140737488351232 := by
    have z := sized_string hsz (j := 0) (t := 9) rfl rfl
    rw [Array.length_toList] at z
    exact z
  obtain ⟨a1, rfl, rfl, rfl, w1⟩ := open_int Try.underlying5 (hval 1 5 v1 rfl rfl) h1
  obtain ⟨a2, rfl, rfl, rfl⟩ := open_bool Try.underlying4 (hval 2 4 v2 rfl rfl) h2
  clear hA0 hval0 hsz0 hsz
  refine (Q.L.Z.tartanlaw03_CsvAgain.walk Pure.CsvAgain a0 a1 a2 W w0 w1).mono fun e W' ⟨he, bel⟩ => ?_
  subst he
  exact ⟨_, rfl, _, _, _, [], _, [], hW', trodAll_mk1 (shut_bool Try.underlying4 _), (trodAll_cons_mk (shut_string Try.underlying9 y0) (trodAll_cons_mk (shut_int Try.underlying5 w1) (trodAll_cons_mk (shut_bool Try.underlying4 _) trodAll_mk0))), rfl, bel.frame _, fun h => by cases h⟩
theorem over : Rows.csvAgainRow.holds Try.pinned (OpenSpec.ofChange Rows.csvAgainSpec) :=
  OpenClaim.holds_of_wide 17 Try.f17 rfl rfl rfl rfl rfl rfl rfl ⟨rfl, rfl, rfl, rfl, rfl⟩ rfl rfl rfl rfl rfl (by kernel_rfl) Try.func17 (by kernel_rfl)
    (of_decide_eq_true (by kernel_rfl)) (by unfold Func.isWrapper; first | (rw [if_pos (by decide +kernel)]; kernel_rfl) | (rw [if_neg (by decide +kernel)]; exact ⟨rfl, rfl⟩))
    (fun os started H enc _ => lifted os started H enc)
theorem proved : Rows.CsvAgainSaid := over
#print axioms proved
end Go.Proofs.Ytggodagdfldndaa.csvAgain
namespace Go.Proofs.Ytggodagdfldndaa
/-- The row, under a short name, for the claim. -/
theorem csvAgain_holds : Rows.CsvAgainSaid := csvAgain.proved
end Go.Proofs.Ytggodagdfldndaa
