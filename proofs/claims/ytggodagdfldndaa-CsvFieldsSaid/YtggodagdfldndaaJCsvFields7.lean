/- The law CsvFields of the given statements: for every input it answers true, and its arguments read afterwards as before: A text is parsed just as its fields are read, one by one; the first fault of a field is its own. Conditions: none but those of the given statement itself. -/
import Derived.Test.YtggodagdfldndaaJCsvFields5
import Derived.Test.YtggodagdfldndaaJCsvFields6
import Derived.Test.YtggodagdfldndaaJCsvFields4
import Derived.Test.YtggodagdfldndaaRows
import Derived.WalkKit
import Derived.ProofKit
import Derived.OpenShut
import Derived.ShutString
import Derived.ChangeOld
import Derived.Below
import Derived.SizedLaws
set_option linter.unusedVariables false
set_option linter.unusedSimpArgs false
/-! Walks of Go functions of this seat against plain Lean functions, written by a program of this session (the kit's print, with hand-proved contracts for what it does not take). Lean checks them. -/
namespace Go.Proofs.Ytggodagdfldndaa.Q.L.Z
open Go.RowKit Go.Proofs.YtggodagdfldndaaW.PrintWords Go.Proofs.YtggodagdfldndaaW.PrintLast Go.Proofs.YtggodagdfldndaaW.PrintMore
attribute [local go_sem] max2_int min2_int max_two min_two max_three min_three max_four min_four   -- for this text's walks alone
set_option linter.unusedVariables false
set_option linter.unusedSimpArgs false

/-! ### tartanlaw03_CsvFields: function 18 -/
mutual
def tartanlaw03_CsvFields.j0 : Nat → ByteArray → Int → Bool → List (List ByteArray) → Int → Int → Bool → Option (Bool)
  | 0, _, _, _, _, _, _, _ => none
  | k + 1, x0, x1, x5, x6, x7, x8, x37 => if x37 = true then (if x5 = true then (some ((x6.length : Int) == 0)) else (some false)) else (tartanlaw03_CsvFields.l0 k x0 x1 x5 x6 x7 x8 0 0 0 0)
def tartanlaw03_CsvFields.l0 : Nat → ByteArray → Int → Bool → List (List ByteArray) → Int → Int → Int → Int → Int → Int → Option (Bool)
  | 0, _, _, _, _, _, _, _, _, _, _ => none
  | k + 1, x0, x1, x5, x6, x7, x8, x9, x10, x11, x12 => if x12 ≤ (wrap64 ((x0.size : Int) + 1)) then (if x9 < (x0.size : Int) then (tartanlaw03_CsvFields.j2 k x0 x1 x5 x6 x7 x8 x9 x10 x11 x12 true) else (tartanlaw03_CsvFields.j2 k x0 x1 x5 x6 x7 x8 x9 x10 x11 x12 (decide (x11 > 0)))) else (tartanlaw03_CsvFields.j2 k x0 x1 x5 x6 x7 x8 x9 x10 x11 x12 false)
def tartanlaw03_CsvFields.j2 : Nat → ByteArray → Int → Bool → List (List ByteArray) → Int → Int → Int → Int → Int → Int → Bool → Option (Bool)
  | 0, _, _, _, _, _, _, _, _, _, _, _ => none
  | k + 1, x0, x1, x5, x6, x7, x8, x9, x10, x11, x12, x58 => if x58 = true then ((lex_Field.f x0 x9 x1).bind fun bt252 => (if bt252.2.2.2 = 0 then (if x8 = 0 then (if x10 ≥ (x6.length : Int) then (tartanlaw03_CsvFields.j3 k x0 x1 x5 x6 x7 x8 x10 x11 x12 bt252.2.1 bt252.2.2.1 true) else (if 0 ≤ x10 then (if x10 < (x6.length : Int) then (if x11 ≥ ((rd_L1 x6 x10).length : Int) then (tartanlaw03_CsvFields.j3 k x0 x1 x5 x6 x7 x8 x10 x11 x12 bt252.2.1 bt252.2.2.1 true) else (if 0 ≤ x11 then (if x11 < ((rd_L1 x6 x10).length : Int) then (tartanlaw03_CsvFields.j3 k x0 x1 x5 x6 x7 x8 x10 x11 x12 bt252.2.1 bt252.2.2.1 ((rdOf ByteArray.empty (rd_L1 x6 x10) x11).toList != bt252.1.toList)) else (none)) else (none))) else (none)) else (none))) else (tartanlaw03_CsvFields.j3 k x0 x1 x5 x6 x7 x8 x10 x11 x12 bt252.2.1 bt252.2.2.1 false)) else (if x5 = true then (if x8 = bt252.2.2.2 then (if x7 = bt252.2.1 then (some ((x6.length : Int) == 0)) else (some false)) else (some false)) else (some false)))) else (if x5 = true then (if x8 = 0 then (some (x10 == (x6.length : Int))) else (some false)) else (some false))
def tartanlaw03_CsvFields.j3 : Nat → ByteArray → Int → Bool → List (List ByteArray) → Int → Int → Int → Int → Int → Int → Int → Bool → Option (Bool)
  | 0, _, _, _, _, _, _, _, _, _, _, _, _ => none
  | k + 1, x0, x1, x5, x6, x7, x8, x10, x11, x12, x14, x15, x115 => if x115 = true then (some false) else (if x15 = 1 then (tartanlaw03_CsvFields.l0 k x0 x1 x5 x6 x7 x8 x14 x10 (wrap64 (x11 + 1)) (wrap64 (x12 + 1))) else (if x8 = 0 then (if 0 ≤ x10 then (if x10 < (x6.length : Int) then (if ((rd_L1 x6 x10).length : Int) = (wrap64 (x11 + 1)) then (tartanlaw03_CsvFields.l0 k x0 x1 x5 x6 x7 x8 x14 (wrap64 (x10 + 1)) 0 (wrap64 (x12 + 1))) else (some false)) else (none)) else (none)) else (tartanlaw03_CsvFields.l0 k x0 x1 x5 x6 x7 x8 x14 (wrap64 (x10 + 1)) 0 (wrap64 (x12 + 1)))))
end
def tartanlaw03_CsvFields.f (k : Nat) (a0 : ByteArray) (a1 : Int) : Option (Bool) := (tartanlaw03_works.f).bind fun t245 => (if t245 = true then (if (a0.size : Int) > 3000 then (some t245) else ((csv_Parse.f a0 a1).bind fun bt246 => (if bt246.2.2 = 7 then (tartanlaw03_CsvFields.j0 k a0 a1 t245 bt246.1 bt246.2.1 bt246.2.2 true) else ((quote_Good.f a1).bind fun t251 => (tartanlaw03_CsvFields.j0 k a0 a1 t245 bt246.1 bt246.2.1 bt246.2.2 (!t251)))))) else (some false))
theorem tartanlaw03_CsvFields.mono_l : ∀ k, (∀ y0 y1 y2 y3 y4 y5 y6, LeO (tartanlaw03_CsvFields.j0 k y0 y1 y2 y3 y4 y5 y6) (tartanlaw03_CsvFields.j0 (k + 1) y0 y1 y2 y3 y4 y5 y6)) ∧ (∀ y0 y1 y2 y3 y4 y5 y6 y7 y8 y9, LeO (tartanlaw03_CsvFields.l0 k y0 y1 y2 y3 y4 y5 y6 y7 y8 y9) (tartanlaw03_CsvFields.l0 (k + 1) y0 y1 y2 y3 y4 y5 y6 y7 y8 y9)) ∧ (∀ y0 y1 y2 y3 y4 y5 y6 y7 y8 y9 y10, LeO (tartanlaw03_CsvFields.j2 k y0 y1 y2 y3 y4 y5 y6 y7 y8 y9 y10) (tartanlaw03_CsvFields.j2 (k + 1) y0 y1 y2 y3 y4 y5 y6 y7 y8 y9 y10)) ∧ (∀ y0 y1 y2 y3 y4 y5 y6 y7 y8 y9 y10 y11, LeO (tartanlaw03_CsvFields.j3 k y0 y1 y2 y3 y4 y5 y6 y7 y8 y9 y10 y11) (tartanlaw03_CsvFields.j3 (k + 1) y0 y1 y2 y3 y4 y5 y6 y7 y8 y9 y10 y11))
  | 0 => ⟨fun _ _ _ _ _ _ _ r h => by simp [tartanlaw03_CsvFields.j0] at h, fun _ _ _ _ _ _ _ _ _ _ r h => by simp [tartanlaw03_CsvFields.l0] at h, fun _ _ _ _ _ _ _ _ _ _ _ r h => by simp [tartanlaw03_CsvFields.j2] at h, fun _ _ _ _ _ _ _ _ _ _ _ _ r h => by simp [tartanlaw03_CsvFields.j3] at h⟩
  | k + 1 => by
    obtain ⟨ih0, ih1, ih2, ih3⟩ := tartanlaw03_CsvFields.mono_l k
    refine ⟨?_, ?_, ?_, ?_⟩
    · intro y0 y1 y2 y3 y4 y5 y6
      unfold tartanlaw03_CsvFields.j0
      repeat' first
      | (with_reducible exact ih0 _ _ _ _ _ _ _)
      | (with_reducible exact ih1 _ _ _ _ _ _ _ _ _ _)
      | (with_reducible exact ih2 _ _ _ _ _ _ _ _ _ _ _)
      | (with_reducible exact ih3 _ _ _ _ _ _ _ _ _ _ _ _)
      | (with_reducible exact LeO.refl _)
      | (with_reducible exact LeO.none _)
      | (with_reducible refine LeO.ite ?_ ?_)
      | (with_reducible refine LeO.bind ?_ (fun _ => ?_))
      | exact ih0 _ _ _ _ _ _ _
      | exact ih1 _ _ _ _ _ _ _ _ _ _
      | exact ih2 _ _ _ _ _ _ _ _ _ _ _
      | exact ih3 _ _ _ _ _ _ _ _ _ _ _ _
      | exact LeO.none _
      | refine LeO.ite ?_ ?_
      | refine LeO.bind ?_ (fun _ => ?_)
    · intro y0 y1 y2 y3 y4 y5 y6 y7 y8 y9
      unfold tartanlaw03_CsvFields.l0
      repeat' first
      | (with_reducible exact ih0 _ _ _ _ _ _ _)
      | (with_reducible exact ih1 _ _ _ _ _ _ _ _ _ _)
      | (with_reducible exact ih2 _ _ _ _ _ _ _ _ _ _ _)
      | (with_reducible exact ih3 _ _ _ _ _ _ _ _ _ _ _ _)
      | (with_reducible exact LeO.refl _)
      | (with_reducible exact LeO.none _)
      | (with_reducible refine LeO.ite ?_ ?_)
      | (with_reducible refine LeO.bind ?_ (fun _ => ?_))
      | exact ih0 _ _ _ _ _ _ _
      | exact ih1 _ _ _ _ _ _ _ _ _ _
      | exact ih2 _ _ _ _ _ _ _ _ _ _ _
      | exact ih3 _ _ _ _ _ _ _ _ _ _ _ _
      | exact LeO.none _
      | refine LeO.ite ?_ ?_
      | refine LeO.bind ?_ (fun _ => ?_)
    · intro y0 y1 y2 y3 y4 y5 y6 y7 y8 y9 y10
      unfold tartanlaw03_CsvFields.j2
      repeat' first
      | (with_reducible exact ih0 _ _ _ _ _ _ _)
      | (with_reducible exact ih1 _ _ _ _ _ _ _ _ _ _)
      | (with_reducible exact ih2 _ _ _ _ _ _ _ _ _ _ _)
      | (with_reducible exact ih3 _ _ _ _ _ _ _ _ _ _ _ _)
      | (with_reducible exact LeO.refl _)
      | (with_reducible exact LeO.none _)
      | (with_reducible refine LeO.ite ?_ ?_)
      | (with_reducible refine LeO.bind ?_ (fun _ => ?_))
      | exact ih0 _ _ _ _ _ _ _
      | exact ih1 _ _ _ _ _ _ _ _ _ _
      | exact ih2 _ _ _ _ _ _ _ _ _ _ _
      | exact ih3 _ _ _ _ _ _ _ _ _ _ _ _
      | exact LeO.none _
      | refine LeO.ite ?_ ?_
      | refine LeO.bind ?_ (fun _ => ?_)
    · intro y0 y1 y2 y3 y4 y5 y6 y7 y8 y9 y10 y11
      unfold tartanlaw03_CsvFields.j3
      repeat' first
      | (with_reducible exact ih0 _ _ _ _ _ _ _)
      | (with_reducible exact ih1 _ _ _ _ _ _ _ _ _ _)
      | (with_reducible exact ih2 _ _ _ _ _ _ _ _ _ _ _)
      | (with_reducible exact ih3 _ _ _ _ _ _ _ _ _ _ _ _)
      | (with_reducible exact LeO.refl _)
      | (with_reducible exact LeO.none _)
      | (with_reducible refine LeO.ite ?_ ?_)
      | (with_reducible refine LeO.bind ?_ (fun _ => ?_))
      | exact ih0 _ _ _ _ _ _ _
      | exact ih1 _ _ _ _ _ _ _ _ _ _
      | exact ih2 _ _ _ _ _ _ _ _ _ _ _
      | exact ih3 _ _ _ _ _ _ _ _ _ _ _ _
      | exact LeO.none _
      | refine LeO.ite ?_ ?_
      | refine LeO.bind ?_ (fun _ => ?_)
theorem tartanlaw03_CsvFields.mono : ∀ a0 a1 k, LeO (tartanlaw03_CsvFields.f k a0 a1) (tartanlaw03_CsvFields.f (k + 1) a0 a1) := by
  intro a0 a1 k
  obtain ⟨ih0, ih1, ih2, ih3⟩ := tartanlaw03_CsvFields.mono_l k
  unfold tartanlaw03_CsvFields.f
  repeat' first
      | (with_reducible exact ih0 _ _ _ _ _ _ _)
      | (with_reducible exact ih1 _ _ _ _ _ _ _ _ _ _)
      | (with_reducible exact ih2 _ _ _ _ _ _ _ _ _ _ _)
      | (with_reducible exact ih3 _ _ _ _ _ _ _ _ _ _ _ _)
      | (with_reducible exact LeO.refl _)
      | (with_reducible exact LeO.none _)
      | (with_reducible refine LeO.ite ?_ ?_)
      | (with_reducible refine LeO.bind ?_ (fun _ => ?_))
      | exact ih0 _ _ _ _ _ _ _
      | exact ih1 _ _ _ _ _ _ _ _ _ _
      | exact ih2 _ _ _ _ _ _ _ _ _ _ _
      | exact ih3 _ _ _ _ _ _ _ _ _ _ _ _
      | exact LeO.none _
      | refine LeO.ite ?_ ?_
      | refine LeO.bind ?_ (fun _ => ?_)
set_option maxHeartbeats 8000000 in
set_option maxRecDepth 100000 in
theorem tartanlaw03_CsvFields.calls (k : Nat) (a0 : ByteArray) (a1 : Int) (r : Bool) (w : World) (h : tartanlaw03_CsvFields.f k a0 a1 = some r) :
    Calls Try.prog 18 #[.string a0, .int .u8 a1] w fun e w' => e = .returned (.bool r) ∧ Below w.heap.size w w' := by
  have HB := Aside0.mk (Below.refl w.heap.size w)
  have H : ((tartanlaw03_works.f).bind fun t245 => (if t245 = true then (if (a0.size : Int) > 3000 then (some t245) else ((csv_Parse.f a0 a1).bind fun bt246 => (if bt246.2.2 = 7 then (tartanlaw03_CsvFields.j0 k a0 a1 t245 bt246.1 bt246.2.1 bt246.2.2 true) else ((quote_Good.f a1).bind fun t251 => (tartanlaw03_CsvFields.j0 k a0 a1 t245 bt246.1 bt246.2.1 bt246.2.2 (!t251)))))) else (some false))) = some r := h
  clear h
  replace H := Option.bind_eq_some_iff.mp H
  obtain ⟨t245, A30, H⟩ := H
  replace H : (if t245 = true then (if (a0.size : Int) > 3000 then (some t245) else ((csv_Parse.f a0 a1).bind fun bt246 => (if bt246.2.2 = 7 then (tartanlaw03_CsvFields.j0 k a0 a1 t245 bt246.1 bt246.2.1 bt246.2.2 true) else ((quote_Good.f a1).bind fun t251 => (tartanlaw03_CsvFields.j0 k a0 a1 t245 bt246.1 bt246.2.1 bt246.2.2 (!t251)))))) else (some false)) = some r := H
  have A3 := Aside0.mk A30
  clear A30
  by_cases c4 : t245 = true
  · subst c4
    have H1 : (if (a0.size : Int) > 3000 then (some true) else ((csv_Parse.f a0 a1).bind fun bt246 => (if bt246.2.2 = 7 then (tartanlaw03_CsvFields.j0 k a0 a1 true bt246.1 bt246.2.1 bt246.2.2 true) else ((quote_Good.f a1).bind fun t251 => (tartanlaw03_CsvFields.j0 k a0 a1 true bt246.1 bt246.2.1 bt246.2.2 (!t251)))))) = some r := by rw [if_pos rfl] at H; exact H
    clear H
    have H := H1
    clear H1
    by_cases c5 : (a0.size : Int) > 3000
    · rw [if_pos c5] at H
      have c5b0 : decide (3000 < (a0.size : Int)) = true := decide_eq_true c5
      have c5b1 : decide (3000 < a0.size) = true := decide_eq_true (by omega)
      clear c5
      obtain rfl := Option.some.inj H
      go_enter Try.func18, Try.ntmps18
      go_wp2_with (first | ((with_reducible refine gate_callee (f := 39) rfl ?_); refine goesL_ (some 17) rfl rfl Try.func39 (by kernel_rfl) rfl #[] rfl (by (try simp only [List.map_toArray, List.map_cons, List.map_nil]); first | done | rfl | (simp only [List.length_drop, List.length_take]; rfl)) ?_; (with_reducible refine (tartanlaw03_works.calls  true _ A3.out).mono ?_); rintro e w6 ⟨rfl, hb⟩; refine ⟨_, rfl, ?_⟩; have n0_ := Aside0.mk (below_step (by repeat (first | (with_reducible first | exact HB.out | apply below_alloc | apply pw_below_drewN | apply below_drew1) | exact HB.out)) hb); clear HB; have HB := n0_; clear n0_; (try clear hb); (try clear hb2); (try clear hk); (try clear hi)))
      go_ret
      exact ⟨by first | rfl | (simp [errW_none, errW_some] <;> rfl) | (simp [*, errW_none, errW_some] <;> rfl), by repeat (first | (with_reducible first | exact HB.out | apply below_alloc | apply pw_below_drewN | apply below_drew1) | exact HB.out)⟩
    · rw [if_neg c5] at H
      have c5b0 : decide (3000 < (a0.size : Int)) = false := decide_eq_false c5
      have c5b1 : decide (3000 < a0.size) = false := decide_eq_false (by omega)
      clear c5
      replace H := Option.bind_eq_some_iff.mp H
      obtain ⟨⟨t246, t247, t248⟩, A70, H⟩ := H
      replace H : (if t248 = 7 then (tartanlaw03_CsvFields.j0 k a0 a1 true t246 t247 t248 true) else ((quote_Good.f a1).bind fun t251 => (tartanlaw03_CsvFields.j0 k a0 a1 true t246 t247 t248 (!t251)))) = some r := H
      have A7 := Aside0.mk A70
      clear A70
      have HC8 := Aside0.mk H
      clear H
      go_enter Try.func18, Try.ntmps18
      go_upto_region 7 with (first | ((with_reducible refine gate_callee (f := 39) rfl ?_); refine goesL_ (some 17) rfl rfl Try.func39 (by kernel_rfl) rfl #[] rfl (by (try simp only [List.map_toArray, List.map_cons, List.map_nil]); first | done | rfl | (simp only [List.length_drop, List.length_take]; rfl)) ?_; (with_reducible refine (tartanlaw03_works.calls  true _ A3.out).mono ?_); rintro e w9 ⟨rfl, hb⟩; refine ⟨_, rfl, ?_⟩; have n0_ := Aside0.mk (below_step (by repeat (first | (with_reducible first | exact HB.out | apply below_alloc | apply pw_below_drewN | apply below_drew1) | exact HB.out)) hb); clear HB; have HB := n0_; clear n0_; (try clear hb); (try clear hb2); (try clear hk); (try clear hi)) | ((with_reducible refine gate_callee (f := 40) rfl ?_); refine goesL_ (some 27) rfl rfl Try.func40 (by kernel_rfl) rfl #[.string a0, .int .u8 a1] rfl (by (try simp only [List.map_toArray, List.map_cons, List.map_nil]); first | done | rfl | (simp only [List.length_drop, List.length_take]; rfl)) ?_; (with_reducible refine (csv_Parse.calls a0 a1 t246 t247 t248 _ A7.out).mono ?_); rintro e w10 ⟨v249, rfl, ho0, hb⟩; refine ⟨_, rfl, ?_⟩; have n0_ := Aside0.mk (Kd.S_lower ho0 (below_size (by repeat (first | (with_reducible first | exact HB.out | apply below_alloc | apply pw_below_drewN | apply below_drew1) | exact HB.out)))); have n1_ := Aside0.mk (below_step (by repeat (first | (with_reducible first | exact HB.out | apply below_alloc | apply pw_below_drewN | apply below_drew1) | exact HB.out)) hb); clear HB; have HO250 := n0_; have HB := n1_; clear n0_ n1_; (try clear hb); (try clear hb2); (try clear hk); (try clear hi); (try clear ho0)))
      (try simp only [Act.put, List.setIfInBounds_toArray, List.set_cons_zero, List.set_cons_succ])
      go_cut [37] (fun v37 wc => ∃ (kq : Nat) (x37_7 : Bool), v37 = .bool x37_7 ∧ Aside0 (tartanlaw03_CsvFields.j0 kq a0 a1 true t246 t247 t248 x37_7 = some r) ∧ Aside0 (kq ≤ k) ∧ Aside0 (Kd.S (Kd.slice 9 Kd.string) 38 wc w.heap.size (fun _ => True) v249 t246) ∧ Aside0 (Below w.heap.size w wc))
      case first =>
        have H := HC8.out
        clear HC8
        by_cases c11 : t248 = 7
        · rw [if_pos c11] at H
          have c11b0 : (t248 == 7) = true := beq_iff_eq.mpr c11
          have c11b1 : (t248 != 7) = false := bne_eq_false_iff_eq.mpr c11
          clear c11
          (first | rw [c11b0] | (simp only [i64_w, i32_w]; rw [c11b0]) | skip)
          have H' := Aside0.mk H
          clear H
          go_wp2
          go_meet
          case rel => exact ⟨_, (true), (by first | rfl | (simp; done) | (simp [*]; done)), H', ⟨by first | omega | exact Nat.le_refl _⟩, ⟨by (with_reducible repeat (first | apply Kd.S_alloc | apply Kd.S_drewN | apply Kd.S_drew)); exact HO250.out⟩, ⟨by repeat (first | (with_reducible first | exact HB.out | apply below_alloc | apply pw_below_drewN | apply below_drew1) | exact HB.out)⟩⟩
        · rw [if_neg c11] at H
          have c11b0 : (t248 == 7) = false := beq_eq_false_iff_ne.mpr c11
          have c11b1 : (t248 != 7) = true := bne_iff_ne.mpr c11
          (first | rw [c11b0] | (simp only [i64_w, i32_w]; rw [c11b0]) | skip)
          replace H := Option.bind_eq_some_iff.mp H
          obtain ⟨t251, A120, H⟩ := H
          replace H : (tartanlaw03_CsvFields.j0 k a0 a1 true t246 t247 t248 (!t251)) = some r := H
          have A12 := Aside0.mk A120
          clear A120
          have H' := Aside0.mk H
          clear H
          go_wp2_with (first | (go_at_call 27; (with_reducible refine (quote_Good.calls a1 t251 _ A12.out).mono ?_); rintro e w' ⟨rfl, ⟨nd, rfl⟩⟩))
          go_meet
          case rel => exact ⟨_, (!t251), (by first | rfl | (simp; done) | (simp [*]; done)), H', ⟨by first | omega | exact Nat.le_refl _⟩, ⟨by (with_reducible repeat (first | apply Kd.S_alloc | apply Kd.S_drewN | apply Kd.S_drew)); exact HO250.out⟩, ⟨by repeat (first | (with_reducible first | exact HB.out | apply below_alloc | apply pw_below_drewN | apply below_drew1) | exact HB.out)⟩⟩
      case rest =>
        clear HC8
        try clear c1
        try clear p2
        try clear c3
        try clear c4
        try clear c5
        try clear c5b0
        try clear c5b1
        try clear c11
        try clear c11b0
        try clear c11b1
        obtain ⟨kq, x37_7, rfl, HA, HJ7, HO_6, HB⟩ := hcut
        cases kq with
        | zero => exact absurd HA.out (by simp [tartanlaw03_CsvFields.j0])
        | succ kj7 =>
          have H := HA.out
          clear HA
          simp only [tartanlaw03_CsvFields.j0] at H
          by_cases c13 : x37_7 = true
          · subst c13
            have H1 : (if true = true then (some ((t246.length : Int) == 0)) else (some false)) = some r := by rw [if_pos rfl] at H; exact H
            clear H
            have H := H1
            clear H1
            have H1 : (some ((t246.length : Int) == 0)) = some r := by first | (rw [if_pos rfl] at H; exact H) | (rw [if_pos trivial] at H; exact H) | (rw [if_neg not_false] at H; exact H) | simpa using H
            clear H
            have H := H1
            clear H1
            obtain rfl := Option.some.inj H
            obtain ⟨Ao14, co14, eo14⟩ := Kd.S_slice HO_6.out
            subst eo14
            go_wp2
            go_ret
            exact ⟨by first | rfl | (simp [errW_none, errW_some] <;> rfl) | (simp [*, errW_none, errW_some] <;> rfl), by repeat (first | (with_reducible first | exact HB.out | apply below_alloc | apply pw_below_drewN | apply below_drew1) | exact HB.out)⟩
          · replace c13 := Bool.eq_false_iff.mpr c13
            subst c13
            have H1 : (tartanlaw03_CsvFields.l0 kj7 a0 a1 true t246 t247 t248 0 0 0 0) = some r := by rw [if_neg (show ¬ (false = true) by decide)] at H; exact H
            clear H
            have H := H1
            clear H1
            have H' := Aside0.mk H
            clear H
            go_wp2
            go_loopg [9, 10, 11, 12] kj7 (fun kq v9 v10 v11 v12 w' => ∃ (x9_2 : Int) (x10_2 : Int) (x11_2 : Int) (x12_2 : Int), v9 = .int .i64 x9_2 ∧ v10 = .int .i64 x10_2 ∧ v11 = .int .i64 x11_2 ∧ v12 = .int .i64 x12_2 ∧ Aside0 (tartanlaw03_CsvFields.l0 kq a0 a1 true t246 t247 t248 x9_2 x10_2 x11_2 x12_2 = some r) ∧ Aside0 (kq ≤ kj7) ∧ Aside0 (Kd.S (Kd.slice 9 Kd.string) 38 w' w.heap.size (fun _ => True) v249 t246) ∧ Aside0 (Below w.heap.size w w'))
            case atStart => exact ⟨(0), (0), (0), (0), (by first | rfl | (simp; done) | (simp [*]; done)), (by first | rfl | (simp; done) | (simp [*]; done)), (by first | rfl | (simp; done) | (simp [*]; done)), (by first | rfl | (simp; done) | (simp [*]; done)), H', ⟨Nat.le_refl _⟩, ⟨by (with_reducible repeat (first | apply Kd.S_alloc | apply Kd.S_drewN | apply Kd.S_drew)); exact HO_6.out⟩, ⟨by repeat (first | (with_reducible first | exact HB.out | apply below_alloc | apply pw_below_drewN | apply below_drew1) | exact HB.out)⟩⟩
            case round =>
              clear H'
              try clear c1
              try clear p2
              try clear c3
              try clear c4
              try clear c5
              try clear c5b0
              try clear c5b1
              try clear c11
              try clear c11b0
              try clear c11b1
              try clear c13
              try clear p2
              obtain ⟨x9_2, x10_2, x11_2, x12_2, rfl, rfl, rfl, rfl, HA, HK2, HO_6, HB⟩ := hrel
              cases gk with
              | zero => exact absurd HA.out (by simp [tartanlaw03_CsvFields.l0])
              | succ k2 =>
                have H := HA.out
                clear HA
                simp only [tartanlaw03_CsvFields.l0] at H
                have HC15 := Aside0.mk H
                clear H
                go_upto_region 11 with (fail)
                go_cut [58] (fun v58 wc => ∃ (kq : Nat) (x58_14 : Bool), v58 = .bool x58_14 ∧ Aside0 (tartanlaw03_CsvFields.j2 kq a0 a1 true t246 t247 t248 x9_2 x10_2 x11_2 x12_2 x58_14 = some r) ∧ Aside0 (kq ≤ k2) ∧ Aside0 (Kd.S (Kd.slice 9 Kd.string) 38 wc w.heap.size (fun _ => True) v249 t246) ∧ Aside0 (Below w.heap.size w wc))
                case first =>
                  have H := HC15.out
                  clear HC15
                  by_cases c16 : x12_2 ≤ (wrap64 ((a0.size : Int) + 1))
                  · rw [if_pos c16] at H
                    have c16b0 : decide (x12_2 ≤ (wrap64 ((a0.size : Int) + 1))) = true := decide_eq_true c16
                    clear c16
                    (first | rw [c16b0] | (simp only [i64_w, i32_w]; rw [c16b0]) | skip)
                    by_cases c17 : x9_2 < (a0.size : Int)
                    · rw [if_pos c17] at H
                      have c17b0 : decide (x9_2 < (a0.size : Int)) = true := decide_eq_true c17
                      clear c17
                      have H' := Aside0.mk H
                      clear H
                      go_wp2
                      go_meet
                      case rel => exact ⟨_, (true), (by first | rfl | (simp; done) | (simp [*]; done)), H', ⟨by have := HJ7.out; have := HK2.out; first | omega | exact Nat.le_refl _⟩, ⟨by (with_reducible repeat (first | apply Kd.S_alloc | apply Kd.S_drewN | apply Kd.S_drew)); exact HO_6.out⟩, ⟨by repeat (first | (with_reducible first | exact HB.out | apply below_alloc | apply pw_below_drewN | apply below_drew1) | exact HB.out)⟩⟩
                    · rw [if_neg c17] at H
                      have c17b0 : decide (x9_2 < (a0.size : Int)) = false := decide_eq_false c17
                      clear c17
                      have H' := Aside0.mk H
                      clear H
                      go_wp2
                      go_meet
                      case rel => exact ⟨_, (decide (x11_2 > 0)), (by first | rfl | (simp; done) | (simp [*]; done)), H', ⟨by have := HJ7.out; have := HK2.out; first | omega | exact Nat.le_refl _⟩, ⟨by (with_reducible repeat (first | apply Kd.S_alloc | apply Kd.S_drewN | apply Kd.S_drew)); exact HO_6.out⟩, ⟨by repeat (first | (with_reducible first | exact HB.out | apply below_alloc | apply pw_below_drewN | apply below_drew1) | exact HB.out)⟩⟩
                  · rw [if_neg c16] at H
                    have c16b0 : decide (x12_2 ≤ (wrap64 ((a0.size : Int) + 1))) = false := decide_eq_false c16
                    clear c16
                    (first | rw [c16b0] | (simp only [i64_w, i32_w]; rw [c16b0]) | skip)
                    have H' := Aside0.mk H
                    clear H
                    go_wp2
                    go_meet
                    case rel => exact ⟨_, (false), (by first | rfl | (simp; done) | (simp [*]; done)), H', ⟨by have := HJ7.out; have := HK2.out; first | omega | exact Nat.le_refl _⟩, ⟨by (with_reducible repeat (first | apply Kd.S_alloc | apply Kd.S_drewN | apply Kd.S_drew)); exact HO_6.out⟩, ⟨by repeat (first | (with_reducible first | exact HB.out | apply below_alloc | apply pw_below_drewN | apply below_drew1) | exact HB.out)⟩⟩
                case rest =>
                  clear HC15
                  try clear c1
                  try clear p2
                  try clear c3
                  try clear c4
                  try clear c5
                  try clear c5b0
                  try clear c5b1
                  try clear p6
                  try clear c11
                  try clear c11b0
                  try clear c11b1
                  try clear c13
                  try clear c16
                  try clear c16b0
                  try clear c17
                  try clear c17b0
                  try clear p2
                  obtain ⟨kq, x58_14, rfl, HA, HJ14, HO_6, HB⟩ := hcut
                  cases kq with
                  | zero => exact absurd HA.out (by simp [tartanlaw03_CsvFields.j2])
                  | succ kj14 =>
                    have H := HA.out
                    clear HA
                    simp only [tartanlaw03_CsvFields.j2] at H
                    by_cases c18 : x58_14 = true
                    · subst c18
                      have H1 : ((lex_Field.f a0 x9_2 a1).bind fun bt252 => (if bt252.2.2.2 = 0 then (if t248 = 0 then (if x10_2 ≥ (t246.length : Int) then (tartanlaw03_CsvFields.j3 kj14 a0 a1 true t246 t247 t248 x10_2 x11_2 x12_2 bt252.2.1 bt252.2.2.1 true) else (if 0 ≤ x10_2 then (if x10_2 < (t246.length : Int) then (if x11_2 ≥ ((rd_L1 t246 x10_2).length : Int) then (tartanlaw03_CsvFields.j3 kj14 a0 a1 true t246 t247 t248 x10_2 x11_2 x12_2 bt252.2.1 bt252.2.2.1 true) else (if 0 ≤ x11_2 then (if x11_2 < ((rd_L1 t246 x10_2).length : Int) then (tartanlaw03_CsvFields.j3 kj14 a0 a1 true t246 t247 t248 x10_2 x11_2 x12_2 bt252.2.1 bt252.2.2.1 ((rdOf ByteArray.empty (rd_L1 t246 x10_2) x11_2).toList != bt252.1.toList)) else (none)) else (none))) else (none)) else (none))) else (tartanlaw03_CsvFields.j3 kj14 a0 a1 true t246 t247 t248 x10_2 x11_2 x12_2 bt252.2.1 bt252.2.2.1 false)) else (if true = true then (if t248 = bt252.2.2.2 then (if t247 = bt252.2.1 then (some ((t246.length : Int) == 0)) else (some false)) else (some false)) else (some false)))) = some r := by rw [if_pos rfl] at H; exact H
                      clear H
                      have H := H1
                      clear H1
                      replace H := Option.bind_eq_some_iff.mp H
                      obtain ⟨⟨t252, t253, t254, t255⟩, A190, H⟩ := H
                      replace H : (if t255 = 0 then (if t248 = 0 then (if x10_2 ≥ (t246.length : Int) then (tartanlaw03_CsvFields.j3 kj14 a0 a1 true t246 t247 t248 x10_2 x11_2 x12_2 t253 t254 true) else (if 0 ≤ x10_2 then (if x10_2 < (t246.length : Int) then (if x11_2 ≥ ((rd_L1 t246 x10_2).length : Int) then (tartanlaw03_CsvFields.j3 kj14 a0 a1 true t246 t247 t248 x10_2 x11_2 x12_2 t253 t254 true) else (if 0 ≤ x11_2 then (if x11_2 < ((rd_L1 t246 x10_2).length : Int) then (tartanlaw03_CsvFields.j3 kj14 a0 a1 true t246 t247 t248 x10_2 x11_2 x12_2 t253 t254 ((rdOf ByteArray.empty (rd_L1 t246 x10_2) x11_2).toList != t252.toList)) else (none)) else (none))) else (none)) else (none))) else (tartanlaw03_CsvFields.j3 kj14 a0 a1 true t246 t247 t248 x10_2 x11_2 x12_2 t253 t254 false)) else (if true = true then (if t248 = t255 then (if t247 = t253 then (some ((t246.length : Int) == 0)) else (some false)) else (some false)) else (some false))) = some r := H
                      have A19 := Aside0.mk A190
                      clear A190
                      by_cases c20 : t255 = 0
                      · rw [if_pos c20] at H
                        have c20b0 : (t255 == 0) = true := beq_iff_eq.mpr c20
                        have c20b1 : (t255 != 0) = false := bne_eq_false_iff_eq.mpr c20
                        clear c20
                        have HC21 := Aside0.mk H
                        clear H
                        go_upto_region 16 with (first | ((with_reducible refine gate_callee (f := 34) rfl ?_); refine goesL_ (some 65) rfl rfl Try.func34 (by kernel_rfl) rfl #[.string a0, .int .i64 x9_2, .int .u8 a1] rfl (by (try simp only [List.map_toArray, List.map_cons, List.map_nil]); first | done | rfl | (simp only [List.length_drop, List.length_take]; rfl)) ?_; (with_reducible refine (lex_Field.calls a0 x9_2 a1 t252 t253 t254 t255 _ A19.out).mono ?_); rintro e w22 ⟨rfl, hb⟩; refine ⟨_, rfl, ?_⟩; have n0_ := Aside0.mk (Kd.S_below (by (with_reducible repeat (first | apply Kd.S_alloc | apply Kd.S_drewN | apply Kd.S_drew)); exact HO_6.out) hb); have n1_ := Aside0.mk (below_step (by repeat (first | (with_reducible first | exact HB.out | apply below_alloc | apply pw_below_drewN | apply below_drew1) | exact HB.out)) hb); clear HO_6; clear HB; have HO_6 := n0_; have HB := n1_; clear n0_ n1_; (try clear hb); (try clear hb2); (try clear hk); (try clear hi)))
                        (try simp only [Act.put, List.setIfInBounds_toArray, List.set_cons_zero, List.set_cons_succ])
                        go_cut [115] (fun v115 wc => ∃ (kq : Nat) (x115_20 : Bool), v115 = .bool x115_20 ∧ Aside0 (tartanlaw03_CsvFields.j3 kq a0 a1 true t246 t247 t248 x10_2 x11_2 x12_2 t253 t254 x115_20 = some r) ∧ Aside0 (kq ≤ kj14) ∧ Aside0 (Kd.S (Kd.slice 9 Kd.string) 38 wc w.heap.size (fun _ => True) v249 t246) ∧ Aside0 (Below w.heap.size w wc))
                        case first =>
                          have H := HC21.out
                          clear HC21
                          by_cases c23 : t248 = 0
                          · rw [if_pos c23] at H
                            have c23b0 : (t248 == 0) = true := beq_iff_eq.mpr c23
                            have c23b1 : (t248 != 0) = false := bne_eq_false_iff_eq.mpr c23
                            clear c23
                            (first | rw [c23b0] | (simp only [i64_w, i32_w]; rw [c23b0]) | skip)
                            by_cases c24 : x10_2 ≥ (t246.length : Int)
                            · rw [if_pos c24] at H
                              have c24b0 : decide ((t246.length : Int) ≤ x10_2) = true := decide_eq_true c24
                              clear c24
                              have H' := Aside0.mk H
                              clear H
                              obtain ⟨Ao25, co25, eo25⟩ := Kd.S_slice HO_6.out
                              subst eo25
                              go_wp2
                              go_meet
                              case rel => exact ⟨_, (true), (by first | rfl | (simp; done) | (simp [*]; done)), H', ⟨by have := HJ7.out; have := HK2.out; have := HJ14.out; first | omega | exact Nat.le_refl _⟩, ⟨by (with_reducible repeat (first | apply Kd.S_alloc | apply Kd.S_drewN | apply Kd.S_drew)); exact HO_6.out⟩, ⟨by repeat (first | (with_reducible first | exact HB.out | apply below_alloc | apply pw_below_drewN | apply below_drew1) | exact HB.out)⟩⟩
                            · rw [if_neg c24] at H
                              have c24b0 : decide ((t246.length : Int) ≤ x10_2) = false := decide_eq_false c24
                              clear c24
                              by_cases c26 : 0 ≤ x10_2
                              · rw [if_pos c26] at H
                                have c26b0 : decide (0 ≤ x10_2) = true := decide_eq_true c26
                                clear c26
                                by_cases c27 : x10_2 < (t246.length : Int)
                                · rw [if_pos c27] at H
                                  have c27b0 : decide (x10_2 < (t246.length : Int)) = true := decide_eq_true c27
                                  clear c27
                                  by_cases c28 : x11_2 ≥ ((rd_L1 t246 x10_2).length : Int)
                                  · rw [if_pos c28] at H
                                    have c28b0 : decide (((rd_L1 t246 x10_2).length : Int) ≤ x11_2) = true := decide_eq_true c28
                                    clear c28
                                    have H' := Aside0.mk H
                                    clear H
                                    obtain ⟨Ao29, co29, eo29⟩ := Kd.S_slice HO_6.out
                                    subst eo29
                                    have p256 : 0 ≤ (x10_2 : Int) := of_decide_eq_true (by first | (with_reducible assumption) | assumption)
                                    have q256 : x10_2 < (t246.length : Int) := of_decide_eq_true (by first | (with_reducible assumption) | assumption)
                                    obtain ⟨ad256, A256_0, c256_0, e256, hx256_0, hl256_0, hi256_0⟩ := at_L1 (Kd.S_reads' HO_6.out).2.2 x10_2 p256 q256
                                    cases e256
                                    obtain ⟨ce256, hce256, hMe256, hcc256⟩ := Kd.S_get HO_6.out [] x10_2 p256 (by first | exact q256 | exact of_decide_eq_true (by first | (with_reducible assumption) | assumption) | (have e_ := (Kd.S_reads' HO_6.out).1; omega))
                                    obtain ⟨ve256_0, rfl, ge256_0⟩ := hMe256
                                    have hv256_0 := hcc256 0 _ rfl
                                    rw [Nat.add_zero, show ((Kd.slice 9 Kd.string)).sz = 1 from rfl, Nat.mul_one] at hv256_0
                                    replace hv256_0 := Option.some.inj (hv256_0.symm.trans hx256_0)
                                    rw [hv256_0] at ge256_0
                                    have HL256_0 := Aside0.mk (show Kd.R Kd.string 9 _ _ _ _ (rd_L1 t246 x10_2) from ge256_0)
                                    clear hv256_0 ge256_0
                                    clear hcc256 hce256
                                    have HR256_0 := Aside0.mk hi256_0
                                    have HC256_0 := Aside0.mk hl256_0
                                    clear hi256_0 hl256_0
                                    replace p256 := eq_true p256
                                    replace q256 := eq_true q256
                                    go_wp2
                                    go_meet
                                    case rel => exact ⟨_, (true), (by first | rfl | (simp; done) | (simp [*]; done)), H', ⟨by have := HJ7.out; have := HK2.out; have := HJ14.out; first | omega | exact Nat.le_refl _⟩, ⟨by (with_reducible repeat (first | apply Kd.S_alloc | apply Kd.S_drewN | apply Kd.S_drew)); exact HO_6.out⟩, ⟨by repeat (first | (with_reducible first | exact HB.out | apply below_alloc | apply pw_below_drewN | apply below_drew1) | exact HB.out)⟩⟩
                                  · rw [if_neg c28] at H
                                    have c28b0 : decide (((rd_L1 t246 x10_2).length : Int) ≤ x11_2) = false := decide_eq_false c28
                                    clear c28
                                    by_cases c30 : 0 ≤ x11_2
                                    · rw [if_pos c30] at H
                                      have c30b0 : decide (0 ≤ x11_2) = true := decide_eq_true c30
                                      clear c30
                                      by_cases c31 : x11_2 < ((rd_L1 t246 x10_2).length : Int)
                                      · rw [if_pos c31] at H
                                        have c31b0 : decide (x11_2 < ((rd_L1 t246 x10_2).length : Int)) = true := decide_eq_true c31
                                        clear c31
                                        have H' := Aside0.mk H
                                        clear H
                                        obtain ⟨Ao32, co32, eo32⟩ := Kd.S_slice HO_6.out
                                        subst eo32
                                        have p256 : 0 ≤ (x10_2 : Int) := of_decide_eq_true (by first | (with_reducible assumption) | assumption)
                                        have q256 : x10_2 < (t246.length : Int) := of_decide_eq_true (by first | (with_reducible assumption) | assumption)
                                        obtain ⟨ad256, A256_0, c256_0, e256, hx256_0, hl256_0, hi256_0⟩ := at_L1 (Kd.S_reads' HO_6.out).2.2 x10_2 p256 q256
                                        cases e256
                                        obtain ⟨ce256, hce256, hMe256, hcc256⟩ := Kd.S_get HO_6.out [] x10_2 p256 (by first | exact q256 | exact of_decide_eq_true (by first | (with_reducible assumption) | assumption) | (have e_ := (Kd.S_reads' HO_6.out).1; omega))
                                        obtain ⟨ve256_0, rfl, ge256_0⟩ := hMe256
                                        have hv256_0 := hcc256 0 _ rfl
                                        rw [Nat.add_zero, show ((Kd.slice 9 Kd.string)).sz = 1 from rfl, Nat.mul_one] at hv256_0
                                        replace hv256_0 := Option.some.inj (hv256_0.symm.trans hx256_0)
                                        rw [hv256_0] at ge256_0
                                        have HL256_0 := Aside0.mk (show Kd.R Kd.string 9 _ _ _ _ (rd_L1 t246 x10_2) from ge256_0)
                                        clear hv256_0 ge256_0
                                        clear hcc256 hce256
                                        have HR256_0 := Aside0.mk hi256_0
                                        have HC256_0 := Aside0.mk hl256_0
                                        clear hi256_0 hl256_0
                                        replace p256 := eq_true p256
                                        replace q256 := eq_true q256
                                        have p257 : 0 ≤ (x10_2 : Int) := of_decide_eq_true (by first | (with_reducible assumption) | assumption)
                                        have q257 : x10_2 < (t246.length : Int) := of_decide_eq_true (by first | (with_reducible assumption) | assumption)
                                        obtain ⟨ad257, A257_0, c257_0, e257, hx257_0, hl257_0, hi257_0⟩ := at_L1 (Kd.S_reads' HO_6.out).2.2 x10_2 p257 q257
                                        obtain rfl : ad256 = ad257 := (by injection e257)
                                        obtain ⟨ce257, hce257, hMe257, hcc257⟩ := Kd.S_get HO_6.out [] x10_2 p257 (by first | exact q257 | exact of_decide_eq_true (by first | (with_reducible assumption) | assumption) | (have e_ := (Kd.S_reads' HO_6.out).1; omega))
                                        obtain ⟨ve257_0, rfl, ge257_0⟩ := hMe257
                                        have hv257_0 := hcc257 0 _ rfl
                                        rw [Nat.add_zero, show ((Kd.slice 9 Kd.string)).sz = 1 from rfl, Nat.mul_one] at hv257_0
                                        replace hv257_0 := Option.some.inj (hv257_0.symm.trans hx257_0)
                                        rw [hv257_0] at ge257_0
                                        have HL257_0 := Aside0.mk (show Kd.R Kd.string 9 _ _ _ _ (rd_L1 t246 x10_2) from ge257_0)
                                        clear hv257_0 ge257_0
                                        clear hcc257 hce257
                                        have HR257_0 := Aside0.mk hi257_0
                                        have HC257_0 := Aside0.mk hl257_0
                                        clear hi257_0 hl257_0
                                        replace p257 := eq_true p257
                                        replace q257 := eq_true q257
                                        have ea_ := Option.some.inj (hx256_0.symm.trans hx257_0)
                                        injection ea_ with ea_ en_ ec_
                                        subst ea_
                                        subst ec_
                                        clear en_
                                        have p258 : 0 ≤ (x11_2 : Int) := of_decide_eq_true (by first | (with_reducible assumption) | assumption)
                                        have q258 : x11_2 < ((rd_L1 t246 x10_2).length : Int) := of_decide_eq_true (by first | (with_reducible assumption) | assumption)
                                        obtain ⟨ad258, e258, hx258_0⟩ := Kd.at_string (by repeat (first | (with_reducible exact HR257_0.out) | (with_reducible refine Kd.C_alloc ?_ _) | (with_reducible refine Kd.C_drewN ?_ _) | (with_reducible refine Kd.C_drew ?_) | exact HR257_0.out)) x11_2 p258 q258
                                        cases e258
                                        replace p258 := eq_true p258
                                        replace q258 := eq_true q258
                                        go_wp2
                                        go_meet
                                        case rel => exact ⟨_, (((rdOf ByteArray.empty (rd_L1 t246 x10_2) x11_2).toList != t252.toList)), (by first | rfl | (simp; done) | (simp [*]; done)), H', ⟨by have := HJ7.out; have := HK2.out; have := HJ14.out; first | omega | exact Nat.le_refl _⟩, ⟨by (with_reducible repeat (first | apply Kd.S_alloc | apply Kd.S_drewN | apply Kd.S_drew)); exact HO_6.out⟩, ⟨by repeat (first | (with_reducible first | exact HB.out | apply below_alloc | apply pw_below_drewN | apply below_drew1) | exact HB.out)⟩⟩
                                      · rw [if_neg c31] at H
                                        exact absurd H (by simp)
                                    · rw [if_neg c30] at H
                                      exact absurd H (by simp)
                                · rw [if_neg c27] at H
                                  exact absurd H (by simp)
                              · rw [if_neg c26] at H
                                exact absurd H (by simp)
                          · rw [if_neg c23] at H
                            have c23b0 : (t248 == 0) = false := beq_eq_false_iff_ne.mpr c23
                            have c23b1 : (t248 != 0) = true := bne_iff_ne.mpr c23
                            (first | rw [c23b0] | (simp only [i64_w, i32_w]; rw [c23b0]) | skip)
                            have H' := Aside0.mk H
                            clear H
                            go_wp2
                            go_meet
                            case rel => exact ⟨_, (false), (by first | rfl | (simp; done) | (simp [*]; done)), H', ⟨by have := HJ7.out; have := HK2.out; have := HJ14.out; first | omega | exact Nat.le_refl _⟩, ⟨by (with_reducible repeat (first | apply Kd.S_alloc | apply Kd.S_drewN | apply Kd.S_drew)); exact HO_6.out⟩, ⟨by repeat (first | (with_reducible first | exact HB.out | apply below_alloc | apply pw_below_drewN | apply below_drew1) | exact HB.out)⟩⟩
                        case rest =>
                          clear HC21
                          try clear c1
                          try clear c2
                          try clear p2
                          try clear q2
                          try clear hx2
                          try clear c3
                          try clear c4
                          try clear c5
                          try clear c5b0
                          try clear c5b1
                          try clear p6
                          try clear c11
                          try clear c11b0
                          try clear c11b1
                          try clear c13
                          try clear c16
                          try clear c16b0
                          try clear c17
                          try clear c17b0
                          try clear c18
                          try clear c20
                          try clear c20b0
                          try clear c20b1
                          try clear c23
                          try clear c23b0
                          try clear c23b1
                          try clear c24
                          try clear c24b0
                          try clear c25
                          try clear p25
                          try clear q25
                          try clear hx25
                          try clear c26
                          try clear c26b0
                          try clear c27
                          try clear c27b0
                          try clear c28
                          try clear c28b0
                          try clear c30
                          try clear c30b0
                          try clear c31
                          try clear c31b0
                          try clear hx256_0
                          try clear hx257_0
                          try clear hx258_0
                          try clear p2
                          try clear p256
                          try clear p257
                          try clear p258
                          try clear p6
                          try clear q256
                          try clear q257
                          try clear q258
                          obtain ⟨kq, x115_20, rfl, HA, HJ20, HO_6, HB⟩ := hcut
                          cases kq with
                          | zero => exact absurd HA.out (by simp [tartanlaw03_CsvFields.j3])
                          | succ kj20 =>
                            have H := HA.out
                            clear HA
                            simp only [tartanlaw03_CsvFields.j3] at H
                            by_cases c33 : x115_20 = true
                            · subst c33
                              have H1 : (some false) = some r := by rw [if_pos rfl] at H; exact H
                              clear H
                              have H := H1
                              clear H1
                              obtain rfl := Option.some.inj H
                              go_wp2
                              go_ret
                              exact ⟨by first | rfl | (simp [errW_none, errW_some] <;> rfl) | (simp [*, errW_none, errW_some] <;> rfl), by repeat (first | (with_reducible first | exact HB.out | apply below_alloc | apply pw_below_drewN | apply below_drew1) | exact HB.out)⟩
                            · replace c33 := Bool.eq_false_iff.mpr c33
                              subst c33
                              have H1 : (if t254 = 1 then (tartanlaw03_CsvFields.l0 kj20 a0 a1 true t246 t247 t248 t253 x10_2 (wrap64 (x11_2 + 1)) (wrap64 (x12_2 + 1))) else (if t248 = 0 then (if 0 ≤ x10_2 then (if x10_2 < (t246.length : Int) then (if ((rd_L1 t246 x10_2).length : Int) = (wrap64 (x11_2 + 1)) then (tartanlaw03_CsvFields.l0 kj20 a0 a1 true t246 t247 t248 t253 (wrap64 (x10_2 + 1)) 0 (wrap64 (x12_2 + 1))) else (some false)) else (none)) else (none)) else (tartanlaw03_CsvFields.l0 kj20 a0 a1 true t246 t247 t248 t253 (wrap64 (x10_2 + 1)) 0 (wrap64 (x12_2 + 1))))) = some r := by rw [if_neg (show ¬ (false = true) by decide)] at H; exact H
                              clear H
                              have H := H1
                              clear H1
                              by_cases c34 : t254 = 1
                              · rw [if_pos c34] at H
                                have c34b0 : (t254 == 1) = true := beq_iff_eq.mpr c34
                                have c34b1 : (t254 != 1) = false := bne_eq_false_iff_eq.mpr c34
                                clear c34
                                have H' := Aside0.mk H
                                clear H
                                go_wp2
                                go_roundg kj20
                                case measure => have := HJ7.out; have := HK2.out; have := HJ14.out; have := HJ20.out; omega
                                case rel => exact ⟨(t253), (x10_2), (wrap64 (x11_2 + 1)), (wrap64 (x12_2 + 1)), (by first | rfl | (simp; done) | (simp [*]; done)), (by first | rfl | (simp; done) | (simp [*]; done)), (by first | rfl | (simp; done) | (simp [*]; done)), (by first | rfl | (simp; done) | (simp [*]; done)), H', ⟨by have := HJ7.out; have := HK2.out; have := HJ14.out; have := HJ20.out; omega⟩, ⟨by (with_reducible repeat (first | apply Kd.S_alloc | apply Kd.S_drewN | apply Kd.S_drew)); exact HO_6.out⟩, ⟨by repeat (first | (with_reducible first | exact HB.out | apply below_alloc | apply pw_below_drewN | apply below_drew1) | exact HB.out)⟩⟩
                              · rw [if_neg c34] at H
                                have c34b0 : (t254 == 1) = false := beq_eq_false_iff_ne.mpr c34
                                have c34b1 : (t254 != 1) = true := bne_iff_ne.mpr c34
                                by_cases c35 : t248 = 0
                                · rw [if_pos c35] at H
                                  have c35b0 : (t248 == 0) = true := beq_iff_eq.mpr c35
                                  have c35b1 : (t248 != 0) = false := bne_eq_false_iff_eq.mpr c35
                                  clear c35
                                  by_cases c36 : 0 ≤ x10_2
                                  · rw [if_pos c36] at H
                                    have c36b0 : decide (0 ≤ x10_2) = true := decide_eq_true c36
                                    clear c36
                                    by_cases c37 : x10_2 < (t246.length : Int)
                                    · rw [if_pos c37] at H
                                      have c37b0 : decide (x10_2 < (t246.length : Int)) = true := decide_eq_true c37
                                      clear c37
                                      by_cases c38 : ((rd_L1 t246 x10_2).length : Int) = (wrap64 (x11_2 + 1))
                                      · rw [if_pos c38] at H
                                        have c38b0 : (((rd_L1 t246 x10_2).length : Int) == (wrap64 (x11_2 + 1))) = true := beq_iff_eq.mpr c38
                                        have c38b1 : (((rd_L1 t246 x10_2).length : Int) != (wrap64 (x11_2 + 1))) = false := bne_eq_false_iff_eq.mpr c38
                                        clear c38
                                        have H' := Aside0.mk H
                                        clear H
                                        obtain ⟨Ao39, co39, eo39⟩ := Kd.S_slice HO_6.out
                                        subst eo39
                                        have p259 : 0 ≤ (x10_2 : Int) := of_decide_eq_true (by first | (with_reducible assumption) | assumption)
                                        have q259 : x10_2 < (t246.length : Int) := of_decide_eq_true (by first | (with_reducible assumption) | assumption)
                                        obtain ⟨ad259, A259_0, c259_0, e259, hx259_0, hl259_0, hi259_0⟩ := at_L1 (Kd.S_reads' HO_6.out).2.2 x10_2 p259 q259
                                        cases e259
                                        obtain ⟨ce259, hce259, hMe259, hcc259⟩ := Kd.S_get HO_6.out [] x10_2 p259 (by first | exact q259 | exact of_decide_eq_true (by first | (with_reducible assumption) | assumption) | (have e_ := (Kd.S_reads' HO_6.out).1; omega))
                                        obtain ⟨ve259_0, rfl, ge259_0⟩ := hMe259
                                        have hv259_0 := hcc259 0 _ rfl
                                        rw [Nat.add_zero, show ((Kd.slice 9 Kd.string)).sz = 1 from rfl, Nat.mul_one] at hv259_0
                                        replace hv259_0 := Option.some.inj (hv259_0.symm.trans hx259_0)
                                        rw [hv259_0] at ge259_0
                                        have HL259_0 := Aside0.mk (show Kd.R Kd.string 9 _ _ _ _ (rd_L1 t246 x10_2) from ge259_0)
                                        clear hv259_0 ge259_0
                                        clear hcc259 hce259
                                        have HR259_0 := Aside0.mk hi259_0
                                        have HC259_0 := Aside0.mk hl259_0
                                        clear hi259_0 hl259_0
                                        replace p259 := eq_true p259
                                        replace q259 := eq_true q259
                                        go_wp2
                                        go_roundg kj20
                                        case measure => have := HJ7.out; have := HK2.out; have := HJ14.out; have := HJ20.out; omega
                                        case rel => exact ⟨(t253), (wrap64 (x10_2 + 1)), (0), (wrap64 (x12_2 + 1)), (by first | rfl | (simp; done) | (simp [*]; done)), (by first | rfl | (simp; done) | (simp [*]; done)), (by first | rfl | (simp; done) | (simp [*]; done)), (by first | rfl | (simp; done) | (simp [*]; done)), H', ⟨by have := HJ7.out; have := HK2.out; have := HJ14.out; have := HJ20.out; omega⟩, ⟨by (with_reducible repeat (first | apply Kd.S_alloc | apply Kd.S_drewN | apply Kd.S_drew)); exact HO_6.out⟩, ⟨by repeat (first | (with_reducible first | exact HB.out | apply below_alloc | apply pw_below_drewN | apply below_drew1) | exact HB.out)⟩⟩
                                      · rw [if_neg c38] at H
                                        have c38b0 : (((rd_L1 t246 x10_2).length : Int) == (wrap64 (x11_2 + 1))) = false := beq_eq_false_iff_ne.mpr c38
                                        have c38b1 : (((rd_L1 t246 x10_2).length : Int) != (wrap64 (x11_2 + 1))) = true := bne_iff_ne.mpr c38
                                        obtain rfl := Option.some.inj H
                                        obtain ⟨Ao40, co40, eo40⟩ := Kd.S_slice HO_6.out
                                        subst eo40
                                        have p259 : 0 ≤ (x10_2 : Int) := of_decide_eq_true (by first | (with_reducible assumption) | assumption)
                                        have q259 : x10_2 < (t246.length : Int) := of_decide_eq_true (by first | (with_reducible assumption) | assumption)
                                        obtain ⟨ad259, A259_0, c259_0, e259, hx259_0, hl259_0, hi259_0⟩ := at_L1 (Kd.S_reads' HO_6.out).2.2 x10_2 p259 q259
                                        cases e259
                                        obtain ⟨ce259, hce259, hMe259, hcc259⟩ := Kd.S_get HO_6.out [] x10_2 p259 (by first | exact q259 | exact of_decide_eq_true (by first | (with_reducible assumption) | assumption) | (have e_ := (Kd.S_reads' HO_6.out).1; omega))
                                        obtain ⟨ve259_0, rfl, ge259_0⟩ := hMe259
                                        have hv259_0 := hcc259 0 _ rfl
                                        rw [Nat.add_zero, show ((Kd.slice 9 Kd.string)).sz = 1 from rfl, Nat.mul_one] at hv259_0
                                        replace hv259_0 := Option.some.inj (hv259_0.symm.trans hx259_0)
                                        rw [hv259_0] at ge259_0
                                        have HL259_0 := Aside0.mk (show Kd.R Kd.string 9 _ _ _ _ (rd_L1 t246 x10_2) from ge259_0)
                                        clear hv259_0 ge259_0
                                        clear hcc259 hce259
                                        have HR259_0 := Aside0.mk hi259_0
                                        have HC259_0 := Aside0.mk hl259_0
                                        clear hi259_0 hl259_0
                                        replace p259 := eq_true p259
                                        replace q259 := eq_true q259
                                        go_wp2
                                        go_ret
                                        exact ⟨by first | rfl | (simp [errW_none, errW_some] <;> rfl) | (simp [*, errW_none, errW_some] <;> rfl), by repeat (first | (with_reducible first | exact HB.out | apply below_alloc | apply pw_below_drewN | apply below_drew1) | exact HB.out)⟩
                                    · rw [if_neg c37] at H
                                      exact absurd H (by simp)
                                  · rw [if_neg c36] at H
                                    exact absurd H (by simp)
                                · rw [if_neg c35] at H
                                  have c35b0 : (t248 == 0) = false := beq_eq_false_iff_ne.mpr c35
                                  have c35b1 : (t248 != 0) = true := bne_iff_ne.mpr c35
                                  have H' := Aside0.mk H
                                  clear H
                                  go_wp2
                                  go_roundg kj20
                                  case measure => have := HJ7.out; have := HK2.out; have := HJ14.out; have := HJ20.out; omega
                                  case rel => exact ⟨(t253), (wrap64 (x10_2 + 1)), (0), (wrap64 (x12_2 + 1)), (by first | rfl | (simp; done) | (simp [*]; done)), (by first | rfl | (simp; done) | (simp [*]; done)), (by first | rfl | (simp; done) | (simp [*]; done)), (by first | rfl | (simp; done) | (simp [*]; done)), H', ⟨by have := HJ7.out; have := HK2.out; have := HJ14.out; have := HJ20.out; omega⟩, ⟨by (with_reducible repeat (first | apply Kd.S_alloc | apply Kd.S_drewN | apply Kd.S_drew)); exact HO_6.out⟩, ⟨by repeat (first | (with_reducible first | exact HB.out | apply below_alloc | apply pw_below_drewN | apply below_drew1) | exact HB.out)⟩⟩
                      · rw [if_neg c20] at H
                        have c20b0 : (t255 == 0) = false := beq_eq_false_iff_ne.mpr c20
                        have c20b1 : (t255 != 0) = true := bne_iff_ne.mpr c20
                        have H1 : (if t248 = t255 then (if t247 = t253 then (some ((t246.length : Int) == 0)) else (some false)) else (some false)) = some r := by first | (rw [if_pos rfl] at H; exact H) | (rw [if_pos trivial] at H; exact H) | (rw [if_neg not_false] at H; exact H) | simpa using H
                        clear H
                        have H := H1
                        clear H1
                        by_cases c41 : t248 = t255
                        · rw [if_pos c41] at H
                          have c41b0 : (t248 == t255) = true := beq_iff_eq.mpr c41
                          have c41b1 : (t248 != t255) = false := bne_eq_false_iff_eq.mpr c41
                          clear c41
                          by_cases c42 : t247 = t253
                          · rw [if_pos c42] at H
                            have c42b0 : (t247 == t253) = true := beq_iff_eq.mpr c42
                            have c42b1 : (t247 != t253) = false := bne_eq_false_iff_eq.mpr c42
                            clear c42
                            obtain rfl := Option.some.inj H
                            go_wp2_with (first | ((with_reducible refine gate_callee (f := 34) rfl ?_); refine goesL_ (some 65) rfl rfl Try.func34 (by kernel_rfl) rfl #[.string a0, .int .i64 x9_2, .int .u8 a1] rfl (by (try simp only [List.map_toArray, List.map_cons, List.map_nil]); first | done | rfl | (simp only [List.length_drop, List.length_take]; rfl)) ?_; (with_reducible refine (lex_Field.calls a0 x9_2 a1 t252 t253 t254 t255 _ A19.out).mono ?_); rintro e w43 ⟨rfl, hb⟩; refine ⟨_, rfl, ?_⟩; have n0_ := Aside0.mk (Kd.S_below (by (with_reducible repeat (first | apply Kd.S_alloc | apply Kd.S_drewN | apply Kd.S_drew)); exact HO_6.out) hb); have n1_ := Aside0.mk (below_step (by repeat (first | (with_reducible first | exact HB.out | apply below_alloc | apply pw_below_drewN | apply below_drew1) | exact HB.out)) hb); clear HO_6; clear HB; have HO_6 := n0_; have HB := n1_; clear n0_ n1_; (try clear hb); (try clear hb2); (try clear hk); (try clear hi); obtain ⟨Ao44, co44, eo44⟩ := Kd.S_slice HO_6.out; subst eo44))
                            go_ret
                            exact ⟨by first | rfl | (simp [errW_none, errW_some] <;> rfl) | (simp [*, errW_none, errW_some] <;> rfl), by repeat (first | (with_reducible first | exact HB.out | apply below_alloc | apply pw_below_drewN | apply below_drew1) | exact HB.out)⟩
                          · rw [if_neg c42] at H
                            have c42b0 : (t247 == t253) = false := beq_eq_false_iff_ne.mpr c42
                            have c42b1 : (t247 != t253) = true := bne_iff_ne.mpr c42
                            obtain rfl := Option.some.inj H
                            go_wp2_with (first | ((with_reducible refine gate_callee (f := 34) rfl ?_); refine goesL_ (some 65) rfl rfl Try.func34 (by kernel_rfl) rfl #[.string a0, .int .i64 x9_2, .int .u8 a1] rfl (by (try simp only [List.map_toArray, List.map_cons, List.map_nil]); first | done | rfl | (simp only [List.length_drop, List.length_take]; rfl)) ?_; (with_reducible refine (lex_Field.calls a0 x9_2 a1 t252 t253 t254 t255 _ A19.out).mono ?_); rintro e w45 ⟨rfl, hb⟩; refine ⟨_, rfl, ?_⟩; have n0_ := Aside0.mk (Kd.S_below (by (with_reducible repeat (first | apply Kd.S_alloc | apply Kd.S_drewN | apply Kd.S_drew)); exact HO_6.out) hb); have n1_ := Aside0.mk (below_step (by repeat (first | (with_reducible first | exact HB.out | apply below_alloc | apply pw_below_drewN | apply below_drew1) | exact HB.out)) hb); clear HO_6; clear HB; have HO_6 := n0_; have HB := n1_; clear n0_ n1_; (try clear hb); (try clear hb2); (try clear hk); (try clear hi)))
                            go_ret
                            exact ⟨by first | rfl | (simp [errW_none, errW_some] <;> rfl) | (simp [*, errW_none, errW_some] <;> rfl), by repeat (first | (with_reducible first | exact HB.out | apply below_alloc | apply pw_below_drewN | apply below_drew1) | exact HB.out)⟩
                        · rw [if_neg c41] at H
                          have c41b0 : (t248 == t255) = false := beq_eq_false_iff_ne.mpr c41
                          have c41b1 : (t248 != t255) = true := bne_iff_ne.mpr c41
                          obtain rfl := Option.some.inj H
                          go_wp2_with (first | ((with_reducible refine gate_callee (f := 34) rfl ?_); refine goesL_ (some 65) rfl rfl Try.func34 (by kernel_rfl) rfl #[.string a0, .int .i64 x9_2, .int .u8 a1] rfl (by (try simp only [List.map_toArray, List.map_cons, List.map_nil]); first | done | rfl | (simp only [List.length_drop, List.length_take]; rfl)) ?_; (with_reducible refine (lex_Field.calls a0 x9_2 a1 t252 t253 t254 t255 _ A19.out).mono ?_); rintro e w46 ⟨rfl, hb⟩; refine ⟨_, rfl, ?_⟩; have n0_ := Aside0.mk (Kd.S_below (by (with_reducible repeat (first | apply Kd.S_alloc | apply Kd.S_drewN | apply Kd.S_drew)); exact HO_6.out) hb); have n1_ := Aside0.mk (below_step (by repeat (first | (with_reducible first | exact HB.out | apply below_alloc | apply pw_below_drewN | apply below_drew1) | exact HB.out)) hb); clear HO_6; clear HB; have HO_6 := n0_; have HB := n1_; clear n0_ n1_; (try clear hb); (try clear hb2); (try clear hk); (try clear hi)))
                          go_ret
                          exact ⟨by first | rfl | (simp [errW_none, errW_some] <;> rfl) | (simp [*, errW_none, errW_some] <;> rfl), by repeat (first | (with_reducible first | exact HB.out | apply below_alloc | apply pw_below_drewN | apply below_drew1) | exact HB.out)⟩
                    · replace c18 := Bool.eq_false_iff.mpr c18
                      subst c18
                      have H1 : (if true = true then (if t248 = 0 then (some (x10_2 == (t246.length : Int))) else (some false)) else (some false)) = some r := by rw [if_neg (show ¬ (false = true) by decide)] at H; exact H
                      clear H
                      have H := H1
                      clear H1
                      have H1 : (if t248 = 0 then (some (x10_2 == (t246.length : Int))) else (some false)) = some r := by first | (rw [if_pos rfl] at H; exact H) | (rw [if_pos trivial] at H; exact H) | (rw [if_neg not_false] at H; exact H) | simpa using H
                      clear H
                      have H := H1
                      clear H1
                      by_cases c47 : t248 = 0
                      · rw [if_pos c47] at H
                        have c47b0 : (t248 == 0) = true := beq_iff_eq.mpr c47
                        have c47b1 : (t248 != 0) = false := bne_eq_false_iff_eq.mpr c47
                        clear c47
                        obtain rfl := Option.some.inj H
                        obtain ⟨Ao48, co48, eo48⟩ := Kd.S_slice HO_6.out
                        subst eo48
                        go_wp2
                        go_ret
                        exact ⟨by first | rfl | (simp [errW_none, errW_some] <;> rfl) | (simp [*, errW_none, errW_some] <;> rfl), by repeat (first | (with_reducible first | exact HB.out | apply below_alloc | apply pw_below_drewN | apply below_drew1) | exact HB.out)⟩
                      · rw [if_neg c47] at H
                        have c47b0 : (t248 == 0) = false := beq_eq_false_iff_ne.mpr c47
                        have c47b1 : (t248 != 0) = true := bne_iff_ne.mpr c47
                        obtain rfl := Option.some.inj H
                        go_wp2
                        go_ret
                        exact ⟨by first | rfl | (simp [errW_none, errW_some] <;> rfl) | (simp [*, errW_none, errW_some] <;> rfl), by repeat (first | (with_reducible first | exact HB.out | apply below_alloc | apply pw_below_drewN | apply below_drew1) | exact HB.out)⟩
  · replace c4 := Bool.eq_false_iff.mpr c4
    subst c4
    have H1 : (some false) = some r := by rw [if_neg (show ¬ (false = true) by decide)] at H; exact H
    clear H
    have H := H1
    clear H1
    obtain rfl := Option.some.inj H
    go_enter Try.func18, Try.ntmps18
    go_wp2_with (first | ((with_reducible refine gate_callee (f := 39) rfl ?_); refine goesL_ (some 17) rfl rfl Try.func39 (by kernel_rfl) rfl #[] rfl (by (try simp only [List.map_toArray, List.map_cons, List.map_nil]); first | done | rfl | (simp only [List.length_drop, List.length_take]; rfl)) ?_; (with_reducible refine (tartanlaw03_works.calls  false _ A3.out).mono ?_); rintro e w49 ⟨rfl, hb⟩; refine ⟨_, rfl, ?_⟩; have n0_ := Aside0.mk (below_step (by repeat (first | (with_reducible first | exact HB.out | apply below_alloc | apply pw_below_drewN | apply below_drew1) | exact HB.out)) hb); clear HB; have HB := n0_; clear n0_; (try clear hb); (try clear hb2); (try clear hk); (try clear hi)))
    go_ret
    exact ⟨by first | rfl | (simp [errW_none, errW_some] <;> rfl) | (simp [*, errW_none, errW_some] <;> rfl), by repeat (first | (with_reducible first | exact HB.out | apply below_alloc | apply pw_below_drewN | apply below_drew1) | exact HB.out)⟩

/-- THE ONE PURE STATEMENT of tartanlaw03_CsvFields: yours. -/
def tartanlaw03_CsvFields.Pure : Prop := ∀ (a0 : ByteArray) (a1 : Int), a0.size ≤ 140737488351232 → (Lit.int .u8 a1).wf = true → ∃ k, tartanlaw03_CsvFields.f k a0 a1 = some true
theorem tartanlaw03_CsvFields.walk (P : tartanlaw03_CsvFields.Pure) (a0 : ByteArray) (a1 : Int) (w : World) (w0 : a0.size ≤ 140737488351232) (w1 : (Lit.int .u8 a1).wf = true) :
    Calls Try.prog 18 #[.string a0, .int .u8 a1] w fun e w' => e = .returned (.bool true) ∧ Below w.heap.size w w' := by
  obtain ⟨k, h⟩ := P a0 a1 w0 w1
  refine (tartanlaw03_CsvFields.calls k a0 a1 true w h).mono ?_
  rintro e w' ⟨rfl, hd⟩
  exact ⟨rfl, hd⟩

end Go.Proofs.Ytggodagdfldndaa.Q.L.Z

/-! What csv.Print prints: the records as they are written, if all are such as csv takes. No program in sight. -/
namespace Go.Proofs.Ytggodagdfldndaa.Q.L
open Go.RowKit
theorem tooBig_false (r : List ByteArray) : tooBig r = false ↔ r.length ≤ 128 ∧ ∀ y ∈ r, y.size ≤ 4096 := by
  unfold tooBig
  rw [Bool.or_eq_false_iff, List.any_eq_false, decide_eq_false_iff_not]
  constructor
  · rintro ⟨h1, h2⟩
    refine ⟨by omega, fun y hy => ?_⟩
    have := h2 y hy
    unfold bigger at this
    simp only [decide_eq_true_eq] at this
    omega
  · rintro ⟨h1, h2⟩
    refine ⟨by omega, fun y hy => ?_⟩
    have := h2 y hy
    unfold bigger
    simp only [decide_eq_true_eq]
    omega
theorem printLoop_good (c : UInt8) (crlf : Bool) : ∀ (l : List (List ByteArray)) (e : Int) (acc : Bs), (∀ r ∈ l, RowOk r) → printLoop c crlf l e acc = (e, acc ++ recsR c.toNat c (l.map fun r => (r, crlf)))
  | [], e, acc, _ => by simp [printLoop, recsR]
  | r :: l, e, acc, h => by
    obtain ⟨h1, h2, h3⟩ := h r (by simp)
    rw [printLoop, if_neg (fun e => h1 (List.length_eq_zero_iff.1 e)), if_neg (by rw [(tooBig_false r).2 ⟨h2, h3⟩]; decide), printLoop_good c crlf l e _ (fun q hq => h q (List.mem_cons_of_mem _ hq))]
    rw [List.map_cons, recsR]
    simp [writeB, cells]
theorem printLoop_ok (c : UInt8) (crlf : Bool) : ∀ (l : List (List ByteArray)) (e : Int) (acc : Bs), (printLoop c crlf l e acc).1 = 0 → e = 0 ∧ ∀ r ∈ l, RowOk r
  | [], e, acc, h => ⟨h, by simp⟩
  | r :: l, e, acc, h => by
    rw [printLoop] at h
    split at h
    · cases h
    · rename_i h1
      split at h
      · have := (printLoop_ok c crlf l _ _ h).1
        cases this
      · rename_i h2
        obtain ⟨g1, g2⟩ := printLoop_ok c crlf l _ _ h
        refine ⟨g1, fun q hq => ?_⟩
        rcases List.mem_cons.1 hq with rfl | hq
        · obtain ⟨a1, a2⟩ := (tooBig_false q).1 (by simpa using h2)
          exact ⟨fun e => h1 (by rw [e]; rfl), a1, a2⟩
        · exact g2 q hq
/-- Records that are printed: their text. -/
def textR (d : Int) (crlf : Bool) (l : List (List ByteArray)) : Bs := recsR d (UInt8.ofNat d.toNat) (l.map fun r => (r, crlf))
theorem byteI {d : Int} (h : (Lit.int .u8 d).wf = true) : ((UInt8.ofNat d.toNat).toNat : Int) = d := by
  obtain ⟨c, rfl⟩ := delim_byte d h
  simp
theorem byteI0 {d : Int} (h : (Lit.int .u8 d).wf = true) : 0 ≤ d ∧ d ≤ 255 := by
  obtain ⟨c, rfl⟩ := delim_byte d h
  have := c.toNat_lt
  omega
theorem printF_ok (l : List (List ByteArray)) (d : Int) (crlf : Bool) (hd : (Lit.int .u8 d).wf = true) (s : ByteArray) (h : printF l d crlf = (s, 0)) : goodI d = true ∧ (∀ r ∈ l, RowOk r) ∧ l.length ≤ 2048 ∧ s = ofBs (textR d crlf l) := by
  have hb := byteI hd
  cases hg : goodI d with
  | false => unfold printF at h; rw [hg, if_neg (by decide)] at h; simp at h
  | true =>
    obtain ⟨⟨e, acc⟩, hp⟩ : ∃ p, printLoop (UInt8.ofNat d.toNat) crlf l (if 2048 < l.length then 7 else 0) [] = p := ⟨_, rfl⟩
    rw [print_post l d crlf e acc hg hp] at h
    by_cases h0 : e = 0
    · subst h0
      obtain ⟨g1, g2⟩ := printLoop_ok _ _ _ _ _ (by rw [hp])
      have hl : l.length ≤ 2048 := by
        by_cases e : 2048 < l.length
        · rw [if_pos e] at g1; cases g1
        · omega
      rw [printLoop_good _ _ _ _ _ g2, List.nil_append, hb] at hp
      rw [if_pos rfl] at h
      split at h
      · simp at h
      · refine ⟨rfl, g2, hl, ?_⟩
        rw [← (Prod.mk.inj h).1, ← (Prod.mk.inj hp).2]; rfl
    · rw [if_neg h0] at h
      exact absurd (Prod.mk.inj h).2 h0
theorem printF_bad (l : List (List ByteArray)) (d : Int) (crlf : Bool) (s : ByteArray) (e : Int) (h : printF l d crlf = (s, e)) (he : e ≠ 0) : s = ⟨#[]⟩ := by
  cases hg : goodI d with
  | false => unfold printF at h; rw [hg, if_neg (by decide)] at h; exact (Prod.mk.inj h).1.symm
  | true =>
    obtain ⟨⟨e2, acc⟩, hp⟩ : ∃ p, printLoop (UInt8.ofNat d.toNat) crlf l (if 2048 < l.length then 7 else 0) [] = p := ⟨_, rfl⟩
    rw [print_post l d crlf e2 acc hg hp] at h
    split at h
    · split at h
      · exact (Prod.mk.inj h).1.symm
      · exact absurd (Prod.mk.inj h).2.symm he
    · exact (Prod.mk.inj h).1.symm
theorem printF_good (l : List (List ByteArray)) (d : Int) (crlf : Bool) (hd : (Lit.int .u8 d).wf = true) (hg : goodI d = true) (hr : ∀ r ∈ l, RowOk r) (hl : l.length ≤ 2048) (hs : (textR d crlf l).length ≤ 4194304) : printF l d crlf = (ofBs (textR d crlf l), 0) := by
  have hb := byteI hd
  have hp := printLoop_good (UInt8.ofNat d.toNat) crlf l (if 2048 < l.length then 7 else 0) [] hr
  have e0 : (if 2048 < l.length then (7 : Int) else 0) = 0 := if_neg (by omega)
  rw [print_post l d crlf _ _ hg hp, if_pos e0, List.nil_append, hb, if_neg (by unfold textR at hs; omega)]
  rfl
theorem print_f (l : List (List ByteArray)) (d : Int) (crlf : Bool) (hd : (Lit.int .u8 d).wf = true) (hl : l.length ≤ 5000) : csv_Print.f l d crlf = some (printF l d crlf) := by
  obtain ⟨h1, h2⟩ := byteI0 hd
  unfold csv_Print.f
  rw [if_pos ⟨hl, h1, h2⟩]
/-- What is printed is parsed back. -/
theorem text_back (l : List (List ByteArray)) (d : Int) (crlf : Bool) (hd : (Lit.int .u8 d).wf = true) (hg : goodI d = true) (hr : ∀ r ∈ l, RowOk r) (hl : l.length ≤ 2048) : parseF (textR d crlf l) d = (l, 0, 0) := by
  have := parse_rows d (UInt8.ofNat d.toNat) (byteI hd) hg (l.map fun r => (r, crlf)) (by
    intro p hp
    obtain ⟨r, hr2, rfl⟩ := List.mem_map.1 hp
    exact hr r hr2) (by rw [List.length_map]; exact hl)
  unfold textR
  rw [this, List.map_map]
  rw [show (Prod.fst ∘ fun r => ((r, crlf) : List ByteArray × Bool)) = id from rfl, List.map_id]
end Go.Proofs.Ytggodagdfldndaa.Q.L

/-! What the printed Lean functions of chapter 3 come to, with enough rounds; the document's examples hold. -/
namespace Go.Proofs.Ytggodagdfldndaa.Q.L.Z
open Go.RowKit Go.Proofs.YtggodagdfldndaaW.PrintWords Go.Proofs.YtggodagdfldndaaW.PrintLast Go.Proofs.Ytggodagdfldndaa.Q.L Go.Proofs.Ytggodagdfldndaa.Q
theorem parse_f (s : ByteArray) (d : Int) (hs : s.size ≤ 1048576) : csv_Parse.f s d = some (parseF (toBs s) d) := by
  unfold csv_Parse.f; rw [if_pos hs]
theorem works03 : tartanlaw03_works.f = some true := by
  unfold tartanlaw03_works.f
  rw [parse_f _ _ (by decide), parse_f _ _ (by decide), parse_f _ _ (by decide), print_f _ _ _ (by decide) (by decide)]
  decide +kernel
theorem rd_nat (l : List (List ByteArray)) (i : Nat) (h : i < l.length) : rd_L1 l (i : Int) = l[i] := by
  unfold rd_L1
  simp [h]
/-! ### are records alike? -/
theorem row_l0 (a b : List ByteArray) (hl : a.length = b.length) (hb : a.length ≤ 1000000) : ∀ (m k i : Nat), i + m = a.length → m < k → a.take i = b.take i → tartanref03_Row.l0 k a b i = some (decide (a = b)) := by
  intro m
  induction m with
  | zero =>
    intro k i hi hk he
    obtain ⟨k, rfl⟩ : ∃ q, k = q + 1 := ⟨k - 1, by omega⟩
    simp only [tartanref03_Row.l0]
    rw [List.take_of_length_le (by omega), List.take_of_length_le (by omega)] at he
    rw [if_neg (by omega), he]; simp
  | succ m ih =>
    intro k i hi hk he
    obtain ⟨k, rfl⟩ : ∃ q, k = q + 1 := ⟨k - 1, by omega⟩
    have h1 : i < a.length := by omega
    have h2 : i < b.length := by omega
    simp only [tartanref03_Row.l0]
    rw [if_pos (by omega), if_pos (by omega), if_pos (by omega), rdOf_nat a i h1, rdOf_nat b i h2, toList_toBs, toList_toBs]
    by_cases e : a[i] = b[i]
    · rw [if_pos (by rw [e]), show wrap64 ((i : Int) + 1) = ((i + 1 : Nat) : Int) from wrap_nat i 1 (by omega)]
      refine ih k (i + 1) (by omega) (by omega) ?_
      rw [List.take_add_one, List.take_add_one, he, List.getElem?_eq_getElem h1, List.getElem?_eq_getElem h2, e]
    · rw [if_neg (fun h => e (by rw [← ofBs_toBs a[i], h, ofBs_toBs])), decide_eq_false (fun h => e (by subst h; rfl))]
theorem row_f (a b : List ByteArray) (hb : a.length ≤ 1000000) (k : Nat) (hk : a.length < k) : tartanref03_Row.f k a b = some (decide (a = b)) := by
  unfold tartanref03_Row.f
  by_cases h : a.length = b.length
  · rw [if_pos (by omega)]
    exact row_l0 a b h hb a.length k 0 (by omega) hk (by simp)
  · rw [if_neg (by omega), decide_eq_false (fun e => h (by rw [e]))]
theorem same_l0 (a b : List (List ByteArray)) (hl : a.length = b.length) (hb : a.length ≤ 1000000) (B : Nat) (hB : ∀ r ∈ a, r.length ≤ B) (hB2 : B ≤ 1000000) : ∀ (m k i : Nat), i + m = a.length → m + B + 1 < k → a.take i = b.take i → tartanref03_Same.l0 k a b i = some (decide (a = b)) := by
  intro m
  induction m with
  | zero =>
    intro k i hi hk he
    obtain ⟨k, rfl⟩ : ∃ q, k = q + 1 := ⟨k - 1, by omega⟩
    simp only [tartanref03_Same.l0]
    rw [List.take_of_length_le (by omega), List.take_of_length_le (by omega)] at he
    rw [if_neg (by omega), he]; simp
  | succ m ih =>
    intro k i hi hk he
    obtain ⟨k, rfl⟩ : ∃ q, k = q + 1 := ⟨k - 1, by omega⟩
    have h1 : i < a.length := by omega
    have h2 : i < b.length := by omega
    have h3 := hB a[i] (List.getElem_mem h1)
    simp only [tartanref03_Same.l0]
    rw [if_pos (by omega), if_pos (by omega), if_pos (by omega), rd_nat a i h1, rd_nat b i h2, row_f _ _ (by omega) k (by omega), Option.bind_some]
    by_cases e : a[i] = b[i]
    · rw [if_pos (decide_eq_true e), show wrap64 ((i : Int) + 1) = ((i + 1 : Nat) : Int) from wrap_nat i 1 (by omega)]
      refine ih k (i + 1) (by omega) (by omega) ?_
      rw [List.take_add_one, List.take_add_one, he, List.getElem?_eq_getElem h1, List.getElem?_eq_getElem h2, e]
    · rw [if_neg (by rw [decide_eq_false e]; decide), decide_eq_false (fun h => e (by subst h; rfl))]
theorem same_f (a b : List (List ByteArray)) (hb : a.length ≤ 1000000) (B : Nat) (hB : ∀ r ∈ a, r.length ≤ B) (hB2 : B ≤ 1000000) (k : Nat) (hk : a.length + B + 1 < k) : tartanref03_Same.f k a b = some (decide (a = b)) := by
  unfold tartanref03_Same.f
  by_cases h : a.length = b.length
  · rw [if_pos (by omega)]
    exact same_l0 a b h hb B hB hB2 a.length k 0 (by omega) hk (by simp)
  · rw [if_neg (by omega), decide_eq_false (fun e => h (by rw [e]))]
/-! ### are they few? -/
/-- How many bytes cells count for. -/
def weigh : List ByteArray → Nat
  | [] => 0
  | x :: r => x.size + 1 + weigh r
def weighL : List (List ByteArray) → Nat
  | [] => 0
  | r :: l => weigh r + weighL l
/-- So few that they are looked at. -/
def FewP (l : List (List ByteArray)) : Prop := l.length ≤ 60 ∧ (∀ r ∈ l, r.length ≤ 60) ∧ weighL l ≤ 8000
def Sized (l : List (List ByteArray)) : Prop := ∀ r ∈ l, ∀ x ∈ r, x.size ≤ 140737488351232
theorem weigh_take (r : List ByteArray) (j : Nat) (h : j < r.length) : weigh (r.take (j + 1)) = weigh (r.take j) + (r[j].size + 1) := by
  induction r generalizing j with
  | nil => cases h
  | cons x r ih =>
    cases j with
    | zero => simp [weigh]
    | succ j =>
      have := ih j (by simpa using h)
      simp only [List.take_succ_cons, weigh, List.getElem_cons_succ, this]
      omega
theorem weighL_take (l : List (List ByteArray)) (i : Nat) (h : i < l.length) : weighL (l.take (i + 1)) = weighL (l.take i) + weigh l[i] := by
  induction l generalizing i with
  | nil => cases h
  | cons x r ih =>
    cases i with
    | zero => simp [weighL]
    | succ i =>
      have := ih i (by simpa using h)
      simp only [List.take_succ_cons, weighL, List.getElem_cons_succ, this]
      omega
theorem few_step (n s : Nat) (hn : n ≤ 8000) (hs : s ≤ 140737488351232) : wrap64 (wrap64 ((n : Int) + (s : Int)) + 1) = ((n + s + 1 : Nat) : Int) := by
  unfold wrap64; omega
/-- Few's two loops: true only if all that follows is few. -/
theorem few_loops (l : List (List ByteArray)) (hl : l.length ≤ 60) (hs : Sized l) : ∀ (m : Nat),
    (∀ (k i n : Nat), i + m = l.length → m * 62 + 1 < k → n = weighL (l.take i) → n ≤ 8000 → (∀ r ∈ l.take i, r.length ≤ 60) → ∃ b, tartanref03_Few.l0 k l (n : Int) (i : Int) = some b ∧ (b = true → FewP l)) := by
  intro m
  induction m with
  | zero =>
    intro k i n hi hk hn hn2 hr
    obtain ⟨k, rfl⟩ : ∃ q, k = q + 1 := ⟨k - 1, by omega⟩
    refine ⟨true, ?_, fun _ => ?_⟩
    · simp only [tartanref03_Few.l0]
      rw [if_neg (by omega)]
    · rw [List.take_of_length_le (by omega)] at hn hr
      exact ⟨hl, hr, by omega⟩
  | succ m ih =>
    intro k i n hi hk hn hn2 hr
    obtain ⟨k, rfl⟩ : ∃ q, k = q + 1 := ⟨k - 1, by omega⟩
    have h1 : i < l.length := by omega
    simp only [tartanref03_Few.l0]
    rw [if_pos (by omega), if_pos (by omega), rd_nat l i h1]
    by_cases h60 : (l[i].length : Int) > 60
    · exact ⟨false, by rw [if_pos h60], fun h => by cases h⟩
    · rw [if_neg h60]
      have inner : ∀ (m2 k2 j n2 : Nat), j + m2 = l[i].length → m * 62 + m2 + 2 < k2 → n2 = weighL (l.take i) + weigh (l[i].take j) → n2 ≤ 8000 → ∃ b, tartanref03_Few.l1 k2 l (n2 : Int) (i : Int) (j : Int) = some b ∧ (b = true → FewP l) := by
        intro m2
        induction m2 with
        | zero =>
          intro k2 j n2 hj hk2 hn3 hn4
          obtain ⟨k2, rfl⟩ : ∃ q, k2 = q + 1 := ⟨k2 - 1, by omega⟩
          simp only [tartanref03_Few.l1]
          rw [if_pos (by omega), if_pos (by omega), rd_nat l i h1, if_neg (by omega), show wrap64 ((i : Int) + 1) = ((i + 1 : Nat) : Int) from wrap_nat i 1 (by omega)]
          refine ih k2 (i + 1) n2 (by omega) (by omega) ?_ hn4 ?_
          · rw [weighL_take l i h1, hn3, show l[i].take j = l[i] from List.take_of_length_le (by omega)]
          · intro r hr2
            rw [List.take_add_one, List.getElem?_eq_getElem h1] at hr2
            simp only [Option.toList_some, List.mem_append, List.mem_singleton] at hr2
            rcases hr2 with hr2 | rfl
            · exact hr r hr2
            · omega
        | succ m2 ih2 =>
          intro k2 j n2 hj hk2 hn3 hn4
          obtain ⟨k2, rfl⟩ : ∃ q, k2 = q + 1 := ⟨k2 - 1, by omega⟩
          have h2 : j < l[i].length := by omega
          have hsz := hs l[i] (List.getElem_mem h1) l[i][j] (List.getElem_mem h2)
          simp only [tartanref03_Few.l1]
          rw [if_pos (by omega), if_pos (by omega), rd_nat l i h1, if_pos (by omega), if_pos (by omega), rdOf_nat _ j h2]
          rw [few_step n2 l[i][j].size hn4 hsz]
          by_cases h8 : ((n2 + l[i][j].size + 1 : Nat) : Int) > 8000
          · exact ⟨false, by rw [if_pos h8], fun h => by cases h⟩
          · rw [if_neg h8, show wrap64 ((j : Int) + 1) = ((j + 1 : Nat) : Int) from wrap_nat j 1 (by omega)]
            exact ih2 k2 (j + 1) _ (by omega) (by omega) (by rw [weigh_take _ j h2, hn3]; omega) (by omega)
      exact inner l[i].length k 0 n (by omega) (by omega) (by rw [hn]; simp [weigh]) hn2
theorem few_f (l : List (List ByteArray)) (hs : Sized l) (k : Nat) (hk : 4000 < k) : ∃ b, tartanref03_Few.f k l = some b ∧ (b = true → FewP l) := by
  unfold tartanref03_Few.f
  by_cases h : (l.length : Int) > 60
  · exact ⟨false, by rw [if_pos h], fun h => by cases h⟩
  · rw [if_neg h]
    exact few_loops l (by omega) hs l.length k 0 0 (by omega) (by omega) rfl (by omega) (by simp)
end Go.Proofs.Ytggodagdfldndaa.Q.L.Z

/-! Few records have short texts. No program in sight. -/
namespace Go.Proofs.Ytggodagdfldndaa.Q.L.Z
open Go.RowKit Go.Proofs.Ytggodagdfldndaa.Q.L
theorem costR_weigh (d : Int) : ∀ r : List ByteArray, costR d r ≤ 3 * weigh r
  | [] => Nat.le_refl _
  | x :: r => by
    have h1 := costR_weigh d r
    have h2 := put_length (toBs x) d
    rw [size_toBs] at h2
    simp only [costR, weigh]
    omega
theorem costL_weigh (d : Int) : ∀ l : List (List ByteArray), costL d l ≤ 3 * weighL l
  | [] => Nat.le_refl _
  | r :: l => by
    have h1 := costL_weigh d l
    have h2 := costR_weigh d r
    simp only [costL, weighL]
    omega
theorem textR_length (d : Int) (crlf : Bool) (l : List (List ByteArray)) (hr : ∀ r ∈ l, RowOk r) : (textR d crlf l).length = costL d l + (if crlf = true then l.length else 0) := recsR_cost d _ crlf l hr
theorem few_text (d : Int) (crlf : Bool) (l : List (List ByteArray)) (hf : FewP l) (hr : ∀ r ∈ l, RowOk r) : (textR d crlf l).length ≤ 24060 := by
  have h1 := textR_length d crlf l hr
  have h2 := costL_weigh d l
  obtain ⟨h3, _, h4⟩ := hf
  rw [h1]
  split <;> omega
end Go.Proofs.Ytggodagdfldndaa.Q.L.Z

/-! Plain laws of chapter 3: what follows changes only the last record. No Go in it. -/
namespace Go.Proofs.Ytggodagdfldndaa
theorem its_keeps (s : Bs) (d : Int) : ∀ (k a n m : Nat) (l : List (List ByteArray)), AtState l n m →
    (∀ j, j < m → ((itsF s d k a n m).foldl addIt l)[j]? = l[j]?) ∧ (∀ l0 r, 0 < n → l = l0 ++ [r] → l0.length = m → ∃ r2, ((itsF s d k a n m).foldl addIt l)[m]? = some (r ++ r2)) ∧ (n = 0 → l.length ≤ ((itsF s d k a n m).foldl addIt l).length)
  | 0, a, n, m, l, h => ⟨fun _ _ => rfl, fun l0 r _ e1 e2 => ⟨[], by subst e1; subst e2; simp [itsF]⟩, fun _ => Nat.le_refl _⟩
  | k + 1, a, n, m, l, h => by
    rw [itsF]
    split
    · obtain ⟨l0, r, c1, c2, c3, c4⟩ := addIt_state l n m (lookR s d a n m).1 (lookR_m s d a n m) h
      have hl : ∀ j, j < m → (l0 ++ [r ++ [(lookR s d a n m).1.c]])[j]? = l[j]? := by
        intro j hj
        rw [List.getElem?_append_left (by omega)]
        rcases c4 with ⟨_, rfl, _⟩ | ⟨_, rfl⟩
        · rfl
        · rw [List.getElem?_append_left (by omega)]
      have hlen : n = 0 → l.length ≤ (l0 ++ [r ++ [(lookR s d a n m).1.c]]).length := by
        intro hn
        rcases c4 with ⟨_, rfl, _⟩ | ⟨h0, _⟩
        · simp
        · omega
      have hlast : (l0 ++ [r ++ [(lookR s d a n m).1.c]])[m]? = some (r ++ [(lookR s d a n m).1.c]) := by
        rw [← c2]; simp
      have hr : ∀ l0' r', 0 < n → l = l0' ++ [r'] → l0'.length = m → r' = r := by
        intro l0' r' hn e1 e2
        rcases c4 with ⟨h0, _, _⟩ | ⟨_, e3⟩
        · omega
        · rw [e1] at e3
          have := (List.append_inj e3 (by omega)).2
          simpa using this
      split
      · split
        · rw [List.foldl_cons, c1]
          obtain ⟨i1, i2, i3⟩ := its_keeps s d k (lookR s d a n m).2 (n + 1) m (l0 ++ [r ++ [(lookR s d a n m).1.c]]) (Or.inr ⟨by omega, l0, _, rfl, c2, by simp [c3]⟩)
          obtain ⟨r2, h2⟩ := i2 l0 _ (by omega) rfl c2
          refine ⟨fun j hj => (i1 j hj).trans (hl j hj), fun l0' r' hn e1 e2 => ⟨[(lookR s d a n m).1.c] ++ r2, ?_⟩, fun hn => ?_⟩
          · rw [h2, hr l0' r' hn e1 e2]; simp
          · have hm : m < (List.foldl addIt (l0 ++ [r ++ [(lookR s d a n m).1.c]]) (itsF s d k (lookR s d a n m).2 (n + 1) m)).length := (List.getElem?_eq_some_iff.1 h2).1
            rcases c4 with ⟨_, rfl, _⟩ | ⟨h0, _⟩ <;> omega
        · rw [List.foldl_cons, c1]
          obtain ⟨i1, i2, i3⟩ := its_keeps s d k (lookR s d a n m).2 0 (m + 1) (l0 ++ [r ++ [(lookR s d a n m).1.c]]) (Or.inl ⟨rfl, by simp [c2]⟩)
          refine ⟨fun j hj => (i1 j (by omega)).trans (hl j hj), fun l0' r' hn e1 e2 => ⟨[(lookR s d a n m).1.c], ?_⟩, fun hn => Nat.le_trans (hlen hn) (i3 rfl)⟩
          rw [i1 m (by omega), hlast, hr l0' r' hn e1 e2]
      · rw [List.foldl_cons, c1]
        refine ⟨fun j hj => hl j hj, fun l0' r' hn e1 e2 => ⟨[(lookR s d a n m).1.c], ?_⟩, hlen⟩
        rw [List.foldl_nil, hlast, hr l0' r' hn e1 e2]
    · exact ⟨fun _ _ => rfl, fun l0 r _ e1 e2 => ⟨[], by subst e1; subst e2; simp⟩, fun _ => Nat.le_refl _⟩
/-- What was parsed well. -/
theorem parse_zero (s : Bs) (d : Int) (l : List (List ByteArray)) (p : Int) (h : parseF s d = (l, p, 0)) : (∀ i ∈ its s d, i.e = 0) ∧ l = rowsOf (its s d) := by
  unfold parseF at h
  split at h
  · split at h
    · rename_i x hx
      have h1 := List.find?_some hx
      simp only [Prod.mk.injEq] at h
      simp only [bne_iff_ne, ne_eq] at h1
      exact absurd (by omega) h1
    · rename_i hx
      simp only [Prod.mk.injEq] at h
      exact ⟨fun i hi => by have := List.find?_eq_none.1 hx i hi; simpa using this, h.1.symm⟩
  · simp at h
/-- Behind one field more: where its cell lies among the records in the end. -/
theorem cell_place (s : Bs) (d : Int) (k a n m nx : Nat) (pre : List It) (X : It) (hX : X.m = m) (hs : AtState (rowsOf pre) n m) (kind1 : Bool) (L : List (List ByteArray))
    (hL : L = rowsOf (pre ++ X :: (if kind1 = true then itsF s d k nx (n + 1) m else itsF s d k nx 0 (m + 1)))) :
    ∃ r r2, L[m]? = some (r ++ X.c :: r2) ∧ r.length = n ∧ (kind1 = false → r2 = []) ∧ AtState (rowsOf (pre ++ [X])) (if kind1 = true then n + 1 else 0) (if kind1 = true then m else m + 1) := by
  obtain ⟨l0, r, c1, c2, c3, c4⟩ := addIt_state (rowsOf pre) n m X hX hs
  have e1 : rowsOf (pre ++ [X]) = l0 ++ [r ++ [X.c]] := by rw [rowsOf_snoc, c1]
  have e2 : L = (if kind1 = true then itsF s d k nx (n + 1) m else itsF s d k nx 0 (m + 1)).foldl addIt (l0 ++ [r ++ [X.c]]) := by
    rw [hL, ← e1, show pre ++ X :: (if kind1 = true then itsF s d k nx (n + 1) m else itsF s d k nx 0 (m + 1)) = (pre ++ [X]) ++ (if kind1 = true then itsF s d k nx (n + 1) m else itsF s d k nx 0 (m + 1)) by simp]
    unfold rowsOf
    rw [List.foldl_append]
  have hs1 : AtState (l0 ++ [r ++ [X.c]]) (n + 1) m := Or.inr ⟨by omega, l0, _, rfl, c2, by simp [c3]⟩
  have hs2 : AtState (l0 ++ [r ++ [X.c]]) 0 (m + 1) := Or.inl ⟨rfl, by simp [c2]⟩
  cases kind1 with
  | true =>
    rw [if_pos rfl] at e2
    obtain ⟨_, i2, _⟩ := its_keeps s d k nx (n + 1) m _ hs1
    obtain ⟨r2, h2⟩ := i2 l0 _ (by omega) rfl c2
    refine ⟨r, r2, by rw [e2, h2]; simp, c3, fun h => (by cases h), ?_⟩
    rw [e1, if_pos rfl, if_pos rfl]; exact hs1
  | false =>
    rw [if_neg (by decide)] at e2
    obtain ⟨i1, _, _⟩ := its_keeps s d k nx 0 (m + 1) _ hs2
    refine ⟨r, [], by rw [e2, i1 m (by omega), ← c2]; simp, c3, fun _ => rfl, ?_⟩
    rw [e1, if_neg (by decide), if_neg (by decide)]; exact hs2
theorem look_seven (s : Bs) (d : Int) (a n m : Nat) (hf : (fieldR d (s.drop a)).2.2.2 = 0) (he : (lookR s d a n m).1.e ≠ 0) : (lookR s d a n m).1.e = 7 := by
  unfold lookR at he ⊢
  by_cases g1 : 128 ≤ n ∨ 2048 ≤ m
  · rw [if_pos g1]
  · rw [if_neg g1, if_pos hf] at he ⊢
    by_cases g2 : 4096 < (fieldR d (s.drop a)).1.length
    · rw [if_pos g2]
    · rw [if_neg g2] at he; exact absurd rfl he
end Go.Proofs.Ytggodagdfldndaa

/-! A text is parsed just as its fields are read, one by one; the first fault of a field is its own: for every input the law answers true. Conditions: none. -/
namespace Go.Proofs.Ytggodagdfldndaa.Pure
open Go.RowKit Go.Proofs.Ytggodagdfldndaa.Q Go.Proofs.Ytggodagdfldndaa.Q.L Go.Proofs.Ytggodagdfldndaa.Q.L.Z Go.Proofs.YtggodagdfldndaaW.PrintWords Go.Proofs.YtggodagdfldndaaW.PrintLast

theorem field_read (s : ByteArray) (hs : s.size ≤ 3000) (a : Nat) (ha : a ≤ s.size) (d : Int) (hg : goodI d = true) :
    lex_Field.f s (a : Int) d = some (ofBs (fieldR d ((toBs s).drop a)).1, ((a + (fieldR d ((toBs s).drop a)).2.1 : Nat) : Int), ((fieldR d ((toBs s).drop a)).2.2.1 : Int), ((fieldR d ((toBs s).drop a)).2.2.2 : Int)) := by
  rw [lex_Field_f s a d (by omega)]
  unfold outF field
  rw [if_neg (by rw [size_toBs]; omega), if_pos hg, Int.toNat_natCast]
  rfl
theorem w1 (n : Nat) (h : n ≤ 100000) : wrap64 ((n : Int) + 1) = ((n + 1 : Nat) : Int) := wrap_nat n 1 (by omega)
theorem fields_loop (s : ByteArray) (hs : s.size ≤ 3000) (d : Int) (hg : goodI d = true) (L : List (List ByteArray)) (p e : Int) (hp : parseF (toBs s) d = (L, p, e)) (h7 : e ≠ 7) :
    ∀ (kf a n m step : Nat) (pre : List It) (fuel : Nat), its (toBs s) d = pre ++ itsF (toBs s) d kf a n m → (∀ i ∈ pre, i.e = 0) → a ≤ s.size → AtState (rowsOf pre) n m → (s.size + 1 ≤ a + kf ∨ (a = s.size ∧ n = 0)) → (step ≤ a ∨ (a = s.size ∧ n = 0 ∧ step ≤ s.size + 1)) → n ≤ 200 → m ≤ 3000 → 3 * kf + 5 < fuel →
    tartanlaw03_CsvFields.l0 fuel s d true L p e (a : Int) (m : Int) (n : Int) (step : Int) = some true := by
  intro kf
  induction kf with
  | zero =>
    intro a n m step pre fuel hits hpre ha hst hk hstep hn hm hfu
    obtain ⟨fuel, rfl⟩ : ∃ q, fuel = q + 2 := ⟨fuel - 2, by omega⟩
    obtain ⟨rfl, rfl⟩ : a = s.size ∧ n = 0 := by omega
    have hit : its (toBs s) d = pre := by rw [hits]; simp [itsF]
    rw [parseF_ok _ _ hg (by rw [hit]; exact hpre), hit] at hp
    obtain ⟨rfl, rfl, rfl⟩ : rowsOf pre = L ∧ 0 = p ∧ 0 = e := by simpa using hp
    have hlen : (rowsOf pre).length = m := by
      rcases hst with ⟨_, h⟩ | ⟨h, _⟩
      · exact h
      · omega
    rw [tartanlaw03_CsvFields.l0, w1 s.size (by omega), if_pos (by omega), if_neg (by omega), tartanlaw03_CsvFields.j2, if_neg (by decide), if_pos rfl, if_pos rfl, hlen]
    simp
  | succ kf ih =>
    intro a n m step pre fuel hits hpre ha hst hk hstep hn hm hfu
    obtain ⟨fuel, rfl⟩ : ∃ q, fuel = q + 3 := ⟨fuel - 3, by omega⟩
    rw [tartanlaw03_CsvFields.l0, w1 s.size (by omega), if_pos (by omega)]
    by_cases hgo : a < s.size ∨ 0 < n
    · have hj : ∀ b : Bool, b = true → tartanlaw03_CsvFields.j2 (fuel + 2) s d true L p e (a : Int) (m : Int) (n : Int) (step : Int) b = some true := by
        rintro b rfl
        have hstep : step ≤ a := by omega
        rw [tartanlaw03_CsvFields.j2, if_pos rfl, field_read s hs a ha d hg, Option.bind_some]
        dsimp only
        have hlook := lookR_m (toBs s) d a n m
        have hitf : itsF (toBs s) d (kf + 1) a n m = if (lookR (toBs s) d a n m).1.e = 0 then (if (lookR (toBs s) d a n m).1.kind = 1 then (lookR (toBs s) d a n m).1 :: itsF (toBs s) d kf (lookR (toBs s) d a n m).2 (n + 1) m else (lookR (toBs s) d a n m).1 :: itsF (toBs s) d kf (lookR (toBs s) d a n m).2 0 (m + 1)) else [(lookR (toBs s) d a n m).1] := by
          rw [itsF, if_pos (by rw [size_toBs]; exact hgo)]
        rw [hitf] at hits
        -- a fault of this field
        have hfault : (lookR (toBs s) d a n m).1.e ≠ 0 → L = [] ∧ p = ((lookR (toBs s) d a n m).1.pl : Int) ∧ e = ((lookR (toBs s) d a n m).1.e : Int) := by
          intro h
          rw [if_neg h] at hits
          rw [parseF_stop _ _ hg pre _ [] hits hpre h] at hp
          simp only [Prod.mk.injEq] at hp
          exact ⟨hp.1.symm, hp.2.1.symm, hp.2.2.symm⟩
        by_cases hf : (fieldR d ((toBs s).drop a)).2.2.2 = 0
        · rw [if_pos (by omega)]
          have he : (lookR (toBs s) d a n m).1.e = 0 := by
            by_cases h : (lookR (toBs s) d a n m).1.e = 0
            · exact h
            · exfalso
              obtain ⟨_, _, h3⟩ := hfault h
              apply h7
              rw [h3, look_seven (toBs s) d a n m hf h]
              rfl
          obtain ⟨b1, b2, b3, b4, b5⟩ := look_good (toBs s) d a n m he
          rw [if_pos he] at hits
          rw [b5] at hits hlook
          dsimp only at hits
          obtain ⟨g1, g2⟩ := field_step d ((toBs s).drop a) hf
          rw [List.length_drop, size_toBs] at g1 g2
          obtain ⟨c, hc⟩ : ∃ c, (fieldR d ((toBs s).drop a)).1 = c := ⟨_, rfl⟩
          obtain ⟨kind, hkind⟩ : ∃ c, (fieldR d ((toBs s).drop a)).2.2.1 = c := ⟨_, rfl⟩
          obtain ⟨wd, hto⟩ : ∃ c, (fieldR d ((toBs s).drop a)).2.1 = c := ⟨_, rfl⟩
          rw [hc, hkind, hto] at hits
          rw [hkind, hto] at g2
          rw [hto] at g1
          rw [hc, hkind, hto]
          clear hfault hlook hitf
          -- the state behind this field
          obtain ⟨l0, r, c1, c2, c3, c4⟩ := addIt_state (rowsOf pre) n m ⟨m, ofBs c, kind, a, 0⟩ rfl hst
          have hpre2 : ∀ i ∈ pre ++ [(⟨m, ofBs c, kind, a, 0⟩ : It)], i.e = 0 := by
            intro i hi
            rcases List.mem_append.1 hi with hi | hi
            · exact hpre i hi
            · rw [List.mem_singleton.1 hi]
          have hits2 : its (toBs s) d = pre ++ (⟨m, ofBs c, kind, a, 0⟩ : It) :: (if decide (kind = 1) = true then itsF (toBs s) d kf (a + wd) (n + 1) m else itsF (toBs s) d kf (a + wd) 0 (m + 1)) := by
            rw [hits]
            by_cases h1 : kind = 1
            · rw [if_pos h1, if_pos (decide_eq_true h1)]
            · rw [if_neg h1, if_neg (by rw [decide_eq_false h1]; decide)]
          have hrow : rowsOf (pre ++ [(⟨m, ofBs c, kind, a, 0⟩ : It)]) = l0 ++ [r ++ [ofBs c]] := by rw [rowsOf_snoc, c1]
          -- on to the next field
          have next : tartanlaw03_CsvFields.j3 (fuel + 1) s d true L p e (m : Int) (n : Int) (step : Int) ((a + wd : Nat) : Int) (kind : Int) false = some true := by
            rw [tartanlaw03_CsvFields.j3, if_neg (by decide), w1 n (by omega), w1 step (by omega), w1 m (by omega)]
            by_cases h1 : kind = 1
            · rw [if_pos (by omega)]
              rw [if_pos h1] at hits
              exact ih (a + wd) (n + 1) m (step + 1) (pre ++ [⟨m, ofBs c, kind, a, 0⟩]) fuel (by rw [hits]; simp) hpre2 (by omega) (by rw [hrow]; exact Or.inr ⟨by omega, l0, _, rfl, c2, by simp [c3]⟩) (by omega) (by omega) (by omega) (by omega) (by omega)
            · rw [if_neg (by omega)]
              rw [if_neg h1] at hits
              have hgo2 := ih (a + wd) 0 (m + 1) (step + 1) (pre ++ [⟨m, ofBs c, kind, a, 0⟩]) fuel (by rw [hits]; simp) hpre2 (by omega) (by rw [hrow]; exact Or.inl ⟨rfl, by simp [c2]⟩) (by omega) (by omega) (by omega) (by omega) (by omega)
              by_cases he0 : e = 0
              · subst he0
                obtain ⟨_, hL⟩ := parse_zero _ _ _ _ hp
                rw [hits2] at hL
                obtain ⟨r', r2, k1, k2, k3, _⟩ := cell_place (toBs s) d kf a n m (a + wd) pre ⟨m, ofBs c, kind, a, 0⟩ rfl hst (decide (kind = 1)) L hL
                have hml : m < L.length := (List.getElem?_eq_some_iff.1 k1).1
                have hrd : rd_L1 L (m : Int) = r' ++ ofBs c :: r2 := by
                  unfold rd_L1
                  rw [Int.toNat_natCast, List.getD_eq_getElem?_getD, k1]; rfl
                rw [if_pos rfl, if_pos (by omega), if_pos (by omega), hrd, k3 (decide_eq_false h1), if_pos (by simp [k2])]
                exact hgo2
              · rw [if_neg he0]
                exact hgo2
          by_cases he0 : e = 0
          · subst he0
            obtain ⟨_, hL⟩ := parse_zero _ _ _ _ hp
            rw [hits2] at hL
            obtain ⟨r', r2, k1, k2, k3, _⟩ := cell_place (toBs s) d kf a n m (a + wd) pre ⟨m, ofBs c, kind, a, 0⟩ rfl hst (decide (kind = 1)) L hL
            have hml : m < L.length := (List.getElem?_eq_some_iff.1 k1).1
            have hrd : rd_L1 L (m : Int) = r' ++ ofBs c :: r2 := by
              unfold rd_L1
              rw [Int.toNat_natCast, List.getD_eq_getElem?_getD, k1]; rfl
            have hln : n < (r' ++ ofBs c :: r2).length := by simp; omega
            rw [if_pos rfl, if_neg (by omega), if_pos (by omega), if_pos (by omega), hrd, if_neg (by omega), if_pos (by omega), if_pos (by omega), rdOf_nat _ n hln]
            have hcell : (r' ++ ofBs c :: r2)[n] = ofBs c := by
              subst k2
              simp
            rw [hcell, bne_self_eq_false]
            exact next
          · rw [if_neg he0]
            exact next
        · rw [if_neg (by omega)]
          have he : (lookR (toBs s) d a n m).1.e ≠ 0 := fun h => hf (look_good (toBs s) d a n m h).2.2.1
          obtain ⟨rfl, h2, h3⟩ := hfault he
          have hX : (lookR (toBs s) d a n m).1 = ⟨m, ByteArray.empty, 0, a + (fieldR d ((toBs s).drop a)).2.1, (fieldR d ((toBs s).drop a)).2.2.2⟩ := by
            by_cases g : 128 ≤ n ∨ 2048 ≤ m
            · exfalso
              apply h7
              rw [h3]
              unfold lookR
              rw [if_pos g]
              rfl
            · unfold lookR
              rw [if_neg g, if_neg hf]
          rw [hX] at h2 h3
          rw [if_pos rfl, h3, h2, if_pos rfl, if_pos rfl]
          rfl
      by_cases hlt : a < s.size
      · rw [if_pos (by omega)]; exact hj true rfl
      · rw [if_neg (by omega)]; exact hj _ (decide_eq_true (by omega))
    · obtain ⟨rfl, rfl⟩ : a = s.size ∧ n = 0 := by omega
      have hit : its (toBs s) d = pre := by rw [hits, ← size_toBs, itsF_end, List.append_nil]
      rw [parseF_ok _ _ hg (by rw [hit]; exact hpre), hit] at hp
      obtain ⟨rfl, rfl, rfl⟩ : rowsOf pre = L ∧ 0 = p ∧ 0 = e := by simpa using hp
      have hlen : (rowsOf pre).length = m := by
        rcases hst with ⟨_, h⟩ | ⟨h, _⟩
        · exact h
        · omega
      rw [if_neg (by omega), tartanlaw03_CsvFields.j2, if_neg (by decide), if_pos rfl, if_pos rfl, hlen]
      simp
theorem CsvFields : tartanlaw03_CsvFields.Pure := by
  intro s d _ _
  refine ⟨10002, ?_⟩
  unfold tartanlaw03_CsvFields.f
  rw [works03, Option.bind_some, if_pos rfl]
  by_cases hs : (s.size : Int) > 3000
  · rw [if_pos hs]
  · rw [if_neg hs, parse_f s d (by omega), Option.bind_some]
    obtain ⟨⟨l, p, e⟩, hp⟩ : ∃ q, parseF (toBs s) d = q := ⟨_, rfl⟩
    rw [hp]
    dsimp only
    by_cases h7 : e = 7
    · subst h7
      obtain ⟨rfl, _, _⟩ := parse_fault _ _ _ _ _ hp (by decide)
      rw [if_pos rfl, tartanlaw03_CsvFields.j0, if_pos rfl, if_pos rfl]
      rfl
    · rw [if_neg h7, quote_Good_f, Option.bind_some]
      cases hg : goodI d with
      | false =>
        unfold parseF at hp
        rw [hg, if_neg (by decide)] at hp
        obtain ⟨rfl, _, _⟩ : [] = l ∧ 0 = p ∧ 2 = e := by simpa using hp
        rw [show (!false) = true from rfl, tartanlaw03_CsvFields.j0, if_pos rfl, if_pos rfl]
        rfl
      | true =>
        rw [show (!true) = false from rfl, tartanlaw03_CsvFields.j0, if_neg (by decide)]
        have := fields_loop s (by omega) d hg l p e hp h7 (s.size + 2) 0 0 0 0 [] 10001 rfl (by simp) (Nat.zero_le _) (Or.inl ⟨rfl, rfl⟩) (Or.inl (by omega)) (Or.inl (Nat.le_refl _)) (by omega) (by omega) (by omega)
        exact this

end Go.Proofs.Ytggodagdfldndaa.Pure

namespace Go.Proofs.Ytggodagdfldndaa.csvFields
open Go.ChangeShapes Go.WideShapes Go.ChangeAt Go.RowKit
open Go.ChangeMaps (open_string shut_string)
set_option linter.unusedVariables false
theorem own : ownKnob Try.prog.godebug = none := by kernel_rfl
set_option maxRecDepth 100000 in
theorem lifted (os : Os) (started : os.Started) (H : Type) (enc : TypeId × Value → H) :
    ReturnsInHanded {} Try.checked os 18 .any (Rows.csvFieldsSpec.pre6 enc Try.prog Try.f18 Rows.csvFieldsRow.domain false) (Rows.csvFieldsSpec.post enc Try.prog Try.f18 false true false false) := by
  refine returnsInHanded_of_change_sized (C := Try.checked) own started (by kernel_rfl) Try.func18
    (ChangeSpec.witness6 (enc := enc) (C := Try.checked) false ⟨#[], #[.string ByteArray.empty, .int .u8 0], []⟩ 8 (by kernel_rfl) (by kernel_rfl) (by kernel_rfl) (by kernel_rfl)) ?_
  intro W base args ds gs before hval0 hW hcnd hsz0 _
  have hsz : (DataW.weightsEach Try.prog (Try.f18.params.toList ++ Rows.csvFieldsSpec.plain.varTypes Try.prog) (ds ++ gs)).all (· ≤ reachBytes) = true := hsz0
  have hval : ∀ (j : Nat) t v, Try.f18.params[j]? = some t → args[j]? = some v → Value.okWide Try.prog W .any base t v := hval0
  have hW' := hW
  obtain ⟨p, q, hA0, hV, rfl, hfz, hnd⟩ := hW
  have hA : DataW.TrodAll enc Try.prog W 0 (fun _ => true) true Try.f18.params.toList args.toList ds p := hA0
  rw [Try.params18] at hA hval hsz
  obtain ⟨v0, vs0, d0, ds0, p0, q0, hargs, rfl, rfl, h0, r0⟩ := trodAll_cons hA
  obtain ⟨v1, vs1, d1, ds1, p1, q1, rfl, rfl, rfl, h1, r1⟩ := trodAll_cons r0
  obtain ⟨rfl, rfl, rfl⟩ := trodAll_nil r1
  obtain rfl : args = #[v0, v1] := by cases args; simp_all
  obtain ⟨rfl, rfl⟩ := trodVars_none hV
  obtain ⟨a0, rfl, rfl, rfl, y0⟩ := open_string Try.underlying9 (hval 0 9 v0 rfl rfl) h0
  have w0 : a0.size ≤ 140737488351232 := by
    have z := sized_string hsz (j := 0) (t := 9) rfl rfl
    rw [Array.length_toList] at z
    exact z
  obtain ⟨a1, rfl, rfl, rfl, w1⟩ := open_int Try.underlying5 (hval 1 5 v1 rfl rfl) h1
  clear hA0 hval0 hsz0 hsz
  refine (Q.L.Z.tartanlaw03_CsvFields.walk Pure.CsvFields a0 a1 W w0 w1).mono fun e W' ⟨he, bel⟩ => ?_
  subst he
  exact ⟨_, rfl, _, _, _, [], _, [], hW', trodAll_mk1 (shut_bool Try.underlying4 _), (trodAll_cons_mk (shut_string Try.underlying9 y0) (trodAll_cons_mk (shut_int Try.underlying5 w1) trodAll_mk0)), rfl, bel.frame _, fun h => by cases h⟩
theorem over : Rows.csvFieldsRow.holds Try.pinned (OpenSpec.ofChange Rows.csvFieldsSpec) :=
  OpenClaim.holds_of_wide 18 Try.f18 rfl rfl rfl rfl rfl rfl rfl ⟨rfl, rfl, rfl, rfl, rfl⟩ rfl rfl rfl rfl rfl (by kernel_rfl) Try.func18 (by kernel_rfl)
    (of_decide_eq_true (by kernel_rfl)) (by unfold Func.isWrapper; first | (rw [if_pos (by decide +kernel)]; kernel_rfl) | (rw [if_neg (by decide +kernel)]; exact ⟨rfl, rfl⟩))
    (fun os started H enc _ => lifted os started H enc)
theorem proved : Rows.CsvFieldsSaid := over
#print axioms proved
end Go.Proofs.Ytggodagdfldndaa.csvFields
namespace Go.Proofs.Ytggodagdfldndaa
/-- The row, under a short name, for the claim. -/
theorem csvFields_holds : Rows.CsvFieldsSaid := csvFields.proved
end Go.Proofs.Ytggodagdfldndaa
