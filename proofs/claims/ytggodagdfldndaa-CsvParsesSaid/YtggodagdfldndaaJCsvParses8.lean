/- Walks of Go functions of this seat against plain Lean functions, written by a program of this session (the kit's print, with hand-proved contracts for what it does not take). Lean checks them. -/
import Derived.Test.YtggodagdfldndaaJCsvParses7
import Derived.Test.YtggodagdfldndaaJCsvParses3
import Derived.Test.YtggodagdfldndaaJCsvParses4
import Derived.Test.YtggodagdfldndaaJCsvParses2
import Derived.Test.YtggodagdfldndaaRows
import Derived.WalkKit
import Derived.ProofKit
import Derived.OpenShut
import Derived.ShutString
import Derived.ChangeOld
import Derived.Below
import Derived.SizedLaws
set_option linter.unusedVariables false
set_option linter.unusedSimpArgs false
namespace Go.Proofs.Ytggodagdfldndaa
open Go.RowKit Go.Proofs.YtggodagdfldndaaW.PrintWords Go.Proofs.YtggodagdfldndaaW.PrintLast Go.Proofs.YtggodagdfldndaaW.PrintMore
open Q Q.L
def rd0 : Rd := ⟨[], [], ⟨#[]⟩, 0, 0, 0, 0⟩
def refLoop (s : ByteArray) (d : Int) : Nat → Nat → Rd → (Int × Int) ⊕ Rd
  | 0, _, r => .inr r
  | k + 1, p, r => if p < s.size then
      (if (p : Int) = r.bg ∧ r.st = 0 ∧ (128 ≤ r.row.length ∨ 2048 ≤ r.done.length) then .inl ((p : Int), 7)
       else if (oneR s p d r).1.err ≠ 0 then .inl ((oneR s p d r).1.pl, (oneR s p d r).1.err)
       else refLoop s d k (p + (oneR s p d r).2) (oneR s p d r).1)
    else .inr r
def refFin (s : ByteArray) : (Int × Int) ⊕ Rd → List (List ByteArray) × Int × Int
  | .inl (p, e) => ([], p, e)
  | .inr r => if r.st = 2 then ([], r.bg, 4) else if r.bg = s.size ∧ r.row.length = 0 then (r.done, 0, 0) else if r.bg = s.size ∧ 128 ≤ r.row.length then ([], s.size, 7) else ((recordR r).done, 0, 0)
/-- What holds of the reader at a place. -/
structure RInv (p : Nat) (r : Rd) : Prop where
  st : r.st = 0 ∨ r.st = 1 ∨ r.st = 2 ∨ r.st = 3
  cell : r.cell.size ≤ p
  row : r.row.length ≤ p
  done : r.done.length ≤ p
  err : r.err = 0
theorem oneR_inv (s : ByteArray) (p : Nat) (d : Int) (r : Rd) (hp : p < s.size) (h : RInv p r) (he : (oneR s p d r).1.err = 0) : 1 ≤ (oneR s p d r).2 ∧ (oneR s p d r).2 ≤ 2 ∧ p + (oneR s p d r).2 ≤ s.size ∧ RInv (p + (oneR s p d r).2) (oneR s p d r).1 := by
  obtain ⟨h1, h2, h3, h4, h5⟩ := h
  have hx : (s.extract p (p + 1)).size = 1 := by
    simp
    omega
  have hb := breakR_le ((toBs s).drop p)
  have hbl : breakR ((toBs s).drop p) ≤ s.size - p := by
    have := hb.1
    rw [List.length_drop] at this
    simpa [toBs] using this
  have hq : (⟨#[34]⟩ : ByteArray).size = 1 := rfl
  have he2 : (⟨#[]⟩ : ByteArray).size = 0 := rfl
  revert he
  unfold oneR
  split
  · split
    · intro _
      exact ⟨by simp, by simp, by show p + 1 ≤ s.size; omega, ⟨by simp, by show r.cell.size ≤ p + 1; omega, by show r.row.length ≤ p + 1; omega, by show r.done.length ≤ p + 1; omega, h5⟩⟩
    · intro _
      refine ⟨by simp, by simp, by show p + 1 ≤ s.size; omega, ⟨h1, ?_, by show r.row.length ≤ p + 1; omega, by show r.done.length ≤ p + 1; omega, h5⟩⟩
      show (r.cell ++ s.extract p (p + 1)).size ≤ p + 1
      rw [ByteArray.size_append, hx]
      omega
  · split
    · intro _
      refine ⟨by simp, by simp, by show p + 1 ≤ s.size; omega, ⟨by simp, ?_, by show r.row.length ≤ p + 1; omega, by show r.done.length ≤ p + 1; omega, h5⟩⟩
      show (r.cell ++ (⟨#[34]⟩ : ByteArray)).size ≤ p + 1
      rw [ByteArray.size_append, hq]
      omega
    · split
      · intro _
        refine ⟨by simp, by simp, by show p + 1 ≤ s.size; omega, ⟨by simp [closedR], ?_, ?_, by show r.done.length ≤ p + 1; omega, h5⟩⟩
        · show (⟨#[]⟩ : ByteArray).size ≤ p + 1
          omega
        · show (r.row ++ [r.cell]).length ≤ p + 1
          simp
          omega
      · split
        · rename_i hn
          intro _
          refine ⟨hn, hb.2, by show p + breakR ((toBs s).drop p) ≤ s.size; omega, ⟨by simp [recordR], ?_, ?_, ?_, h5⟩⟩
          · show (⟨#[]⟩ : ByteArray).size ≤ _
            omega
          · show ([] : List ByteArray).length ≤ _
            exact Nat.zero_le _
          · show (r.done ++ [r.row ++ [r.cell]]).length ≤ p + breakR ((toBs s).drop p)
            simp
            omega
        · split
          · intro h
            exact absurd h (by simp [badR])
          · split
            · intro _
              exact ⟨by simp, by simp, by show p + 1 ≤ s.size; omega, ⟨by simp, by show r.cell.size ≤ p + 1; omega, by show r.row.length ≤ p + 1; omega, by show r.done.length ≤ p + 1; omega, h5⟩⟩
            · split
              · intro h
                exact absurd h (by simp [badR])
              · split
                · intro h
                  exact absurd h (by simp [badR])
                · intro _
                  refine ⟨by simp, by simp, by show p + 1 ≤ s.size; omega, ⟨by simp, ?_, by show r.row.length ≤ p + 1; omega, by show r.done.length ≤ p + 1; omega, h5⟩⟩
                  show (r.cell ++ s.extract p (p + 1)).size ≤ p + 1
                  rw [ByteArray.size_append, hx]
                  omega
/-- The loop's state: the reader in its block g. -/
structure PAt (w W : World) (g : Nat) (p : Nat) (r : Rd) (A : Option Addr) (c : Nat) (B : Option Addr) (e : Nat) : Prop where
  eg : g = w.heap.size
  blk : W.heap[g]? = some (.cells #[.slice A r.done.length c, .slice B r.row.length e, .string r.cell, .int .i64 r.st, .int .i64 r.bg, .int .i64 r.err, .int .i64 r.pl] 82 (0, 0))
  rd : RdF W (.agg #[.slice A r.done.length c, .slice B r.row.length e, .string r.cell, .int .i64 r.st, .int .i64 r.bg, .int .i64 r.err, .int .i64 r.pl]) r (fun k => w.heap.size ≤ k ∧ k ≠ g)
  bel : Below w.heap.size w W
  inv : RInv p r
theorem meas_step (S p n : Nat) (h1 : 1 ≤ n) (h : p + n ≤ S) (hw : wrap64 ((p : Int) + (n : Int)) = (p : Int) + (n : Int)) : S - (intOf (.int .i64 (wrap64 ((p : Int) + (n : Int))))).toNat < S - (intOf (.int .i64 (p : Int))).toNat := by
  rw [hw]
  clear hw
  simp only [intOf]
  omega
set_option maxHeartbeats 4000000 in
set_option maxRecDepth 100000 in
theorem refparse_walk (s : ByteArray) (d : Int) (w : World) (hs : s.size ≤ 3000) (hg : goodI d = true) (X : (Int × Int) ⊕ Rd) (hX : refLoop s d (s.size + 1) 0 rd0 = X) :
    Calls Try.prog 41 #[.string s, .int .u8 d] w fun ev w' => ∃ v, ev = .returned (.tuple #[v, .int .i64 (refFin s X).2.1, .int .i64 (refFin s X).2.2]) ∧ Kd.V (Kd.slice 9 Kd.string) 38 w' w.heap.size (fun k => w.heap.size ≤ k) v (refFin s X).1 ∧ Below w.heap.size w w' := by
  have HX := Lib.hid hX
  have Hg := Lib.hid (show tartanref01_Good.f d = some true by rw [ref01_Good_f, hg])
  have hsz : decide ((4194304 : Int) < (s.size : Int)) = false := decide_eq_false (by omega)
  clear hg hX
  go_enter Try.func41, Try.ntmps41
  go_wp2_with fail
  refine (tartanref01_Good.calls d true _ Hg.out).mono ?_
  rintro e w' ⟨rfl, ⟨nd, rfl⟩⟩
  go_wp2_with (first | ((with_reducible refine gate_dst (N := 7) rfl ?_); refine box_event ?hg (N := 7) ?hd (cs := #[Value.slice none 0 0, Value.slice none 0 0, Value.string { data := #[] }, Value.int IntKind.i64 0, Value.int IntKind.i64 0, Value.int IntKind.i64 0, Value.int IntKind.i64 0]) (t := 82) ?hr ?_; (case hd => rfl); (case hg => rfl); (case hr => first | (go_simp; done) | (go_simp; rfl)); intro g hg w1 hbox hb; have HG := Lib.hid (show g = w.heap.size from hg); have HB1 := Lib.hid (below_step (pw_below_drewN (Below.refl _ w) nd) hb); have HBOX := Lib.hid hbox; have zc0 := blk_cell hbox 0; have zf0 := blk_frozen hbox 0; have zc1 := blk_cell hbox 1; have zf1 := blk_frozen hbox 1; have zc2 := blk_cell hbox 2; have zf2 := blk_frozen hbox 2; have zc3 := blk_cell hbox 3; have zf3 := blk_frozen hbox 3; have zc4 := blk_cell hbox 4; have zf4 := blk_frozen hbox 4; have zc5 := blk_cell hbox 5; have zf5 := blk_frozen hbox 5; have zc6 := blk_cell hbox 6; have zf6 := blk_frozen hbox 6; simp only [List.getElem?_toArray, List.getElem?_cons_zero, List.getElem?_cons_succ] at zc0 zc1 zc2 zc3 zc4 zc5 zc6; clear hg hb hbox))
  clear zc0 zf0 zc1 zf1 zc2 zf2 zc3 zf3 zc4 zf4 zc5 zf5 zc6 zf6
  go_loopw [8] (fun i wr => ∃ (k p : Nat) (r : Rd) (A : Option Addr) (c : Nat) (B : Option Addr) (e : Nat), i = .int .i64 p ∧ PAt w wr g p r A c B e ∧ refLoop s d k p r = X ∧ p ≤ s.size ∧ s.size - p < k) (fun i _ => s.size - (intOf i).toNat)
  case atStart =>
    refine ⟨s.size + 1, 0, rd0, none, 0, none, 0, rfl, ⟨HG.out, by exact seven _ _ _ _ _ _ _ _ _ _ _ _ _ _ _ _ HBOX.out, ⟨none, 0, none, 0, rfl, Nat.le_refl _, Nat.le_refl _, Kd.F_nil _ _ _, Kd.F_nil _ _ _⟩, seven_below HB1.out (by rw [HG.out]; exact Nat.le_refl _) _ _ _ _ _ _ _, ⟨Or.inl rfl, Nat.zero_le _, Nat.zero_le _, Nat.zero_le _, rfl⟩⟩, HX.out, Nat.zero_le _, by omega⟩
  case round =>
    clear HBOX HB1 HX
    obtain ⟨k, p, r, A, c, B, e, rfl, hP, hR, hle, hk⟩ := hrel
    cases k with
    | zero => exact absurd hk (Nat.not_lt_zero _)
    | succ k =>
    have HP := Lib.hid hP
    have zc0 := blk_cell hP.blk 0; have zf0 := blk_frozen hP.blk 0; have zc1 := blk_cell hP.blk 1; have zf1 := blk_frozen hP.blk 1; have zc2 := blk_cell hP.blk 2; have zf2 := blk_frozen hP.blk 2; have zc3 := blk_cell hP.blk 3; have zf3 := blk_frozen hP.blk 3; have zc4 := blk_cell hP.blk 4; have zf4 := blk_frozen hP.blk 4; have zc5 := blk_cell hP.blk 5; have zf5 := blk_frozen hP.blk 5; have zc6 := blk_cell hP.blk 6; have zf6 := blk_frozen hP.blk 6; simp only [List.getElem?_toArray, List.getElem?_cons_zero, List.getElem?_cons_succ] at zc0 zc1 zc2 zc3 zc4 zc5 zc6
    clear hP
    rw [refLoop] at hR
    by_cases hp : p < s.size
    · rw [if_pos hp] at hR
      have hp1 : decide ((p : Int) < (s.size : Int)) = true := decide_eq_true (by omega)
      by_cases hbig : (p : Int) = r.bg ∧ r.st = 0 ∧ (128 ≤ r.row.length ∨ 2048 ≤ r.done.length)
      · rw [if_pos hbig] at hR
        subst hR
        have t1 : ((p : Int) == r.bg) = true := beq_iff_eq.2 hbig.1
        have t2 : (r.st == 0) = true := beq_iff_eq.2 hbig.2.1
        by_cases h128 : 128 ≤ r.row.length
        · have t3 : decide ((128 : Int) ≤ (r.row.length : Int)) = true := decide_eq_true (by omega)
          clear hbig h128 hle hk
          go_wp2
          go_ret3
          exact ⟨_, rfl, Kd.V_nil _ _ _ _ _, HP.out.bel⟩
        · have t3 : decide ((128 : Int) ≤ (r.row.length : Int)) = false := decide_eq_false (by omega)
          have t4 : decide ((2048 : Int) ≤ (r.done.length : Int)) = true := decide_eq_true (by omega)
          clear hbig h128 hle hk
          go_wp2
          go_ret3
          exact ⟨_, rfl, Kd.V_nil _ _ _ _ _, HP.out.bel⟩
      · rw [if_neg hbig] at hR
        have hone := one_walk s p d _ r wr hp hs _ HP.out.rd HP.out.inv.st (by have := HP.out.inv.cell; omega) (by have := HP.out.inv.row; omega) (by have := HP.out.inv.done; omega) HP.out.inv.err
        have hin := oneR_inv s p d r hp HP.out.inv
        generalize oneR s p d r = on at hone hin hR
        obtain ⟨r2, n⟩ := on
        dsimp only at hone hin hR
        have HON := Lib.hid hone
        have HIN := Lib.hid hin
        have HR := Lib.hid hR
        have HK := Lib.hid (show p ≤ s.size ∧ s.size - p < k + 1 from ⟨hle, hk⟩)
        have hcase : ((p : Int) == r.bg) = false ∨ (((p : Int) == r.bg) = true ∧ (r.st == 0) = false) ∨ (((p : Int) == r.bg) = true ∧ (r.st == 0) = true ∧ decide ((128 : Int) ≤ (r.row.length : Int)) = false ∧ decide ((2048 : Int) ≤ (r.done.length : Int)) = false) := by
          by_cases h1 : (p : Int) = r.bg
          · by_cases h2 : r.st = 0
            · refine Or.inr (Or.inr ⟨beq_iff_eq.2 h1, beq_iff_eq.2 h2, decide_eq_false ?_, decide_eq_false ?_⟩)
              · intro h3
                exact hbig ⟨h1, h2, Or.inl (by omega)⟩
              · intro h3
                exact hbig ⟨h1, h2, Or.inr (by omega)⟩
            · exact Or.inr (Or.inl ⟨beq_iff_eq.2 h1, beq_eq_false_iff_ne.2 h2⟩)
          · exact Or.inl (beq_eq_false_iff_ne.2 h1)
        clear hone hin hR hbig hle hk
        rcases hcase with t1 | ⟨t1, t2⟩ | ⟨t1, t2, t3, t4⟩
        all_goals
          go_wp2_with fail
          refine HON.out.mono ?_
          rintro ev w2 ⟨v2, rfl, hv2, hb2⟩
          have HP2 := Lib.hid (show w2.heap[g]? = _ from blk_below HP.out.blk hb2)
          have HB2 := Lib.hid (below_step HP.out.bel hb2)
          have HWG := Lib.hid (show g < wr.heap.size from blk_lt HP.out.blk)
          have HWR := Lib.hid (show w.heap.size ≤ wr.heap.size from HP.out.bel.size)
          have HV2 := Lib.hid hv2.bound
          obtain ⟨A2, c2, B2, e2, hv2e, hx⟩ := hv2
          clear hx hb2 HON HP
          subst hv2e
          clear zc0 zf0 zc1 zf1 zc2 zf2 zc3 zf3 zc4 zf4 zc5 zf5 zc6 zf6
          go_upto_region 11 with (first | ((with_reducible refine gate_dst (N := 9) rfl ?_); refine box_event ?hg (N := 9) ?hd (cs := #[Value.slice none 0 0, Value.slice none 0 0, Value.string { data := #[] }, Value.int IntKind.i64 0, Value.int IntKind.i64 0, Value.int IntKind.i64 0, Value.int IntKind.i64 0]) (t := 82) ?hr ?_; (case hd => rfl); (case hg => rfl); (case hr => first | (go_simp; done) | (go_simp; rfl)); intro h hh w3 hbox hb; have HH := Lib.hid (show h = w2.heap.size from hh); have HBOX := Lib.hid hbox; have HB3 := Lib.hid hb; have xc0 := blk_cell hbox 0; have xf0 := blk_frozen hbox 0; have xc1 := blk_cell hbox 1; have xf1 := blk_frozen hbox 1; have xc2 := blk_cell hbox 2; have xf2 := blk_frozen hbox 2; have xc3 := blk_cell hbox 3; have xf3 := blk_frozen hbox 3; have xc4 := blk_cell hbox 4; have xf4 := blk_frozen hbox 4; have xc5 := blk_cell hbox 5; have xf5 := blk_frozen hbox 5; have xc6 := blk_cell hbox 6; have xf6 := blk_frozen hbox 6; simp only [List.getElem?_toArray, List.getElem?_cons_zero, List.getElem?_cons_succ] at xc0 xc1 xc2 xc3 xc4 xc5 xc6; clear hh hb hbox))
          have hhg : h ≠ g := fun e_ => by have h1 := HWG.out; have h2 := HH.out; have h3 := blk_lt HP2.out; omega
          have hgh : g ≠ h := Ne.symm hhg
          have HN := Lib.hid (show w.heap.size ≤ h by have h1 := HWR.out; have h2 := HH.out; have h3 := blk_lt HP2.out; have h4 := HWG.out; have h5 := HG.out; omega)
          have HP3 := Lib.hid (show (((((((w3.setCell ⟨h, 0, none⟩ (.slice A2 r2.done.length c2)).setCell ⟨h, 1, none⟩ (.slice B2 r2.row.length e2)).setCell ⟨h, 2, none⟩ (.string r2.cell)).setCell ⟨h, 3, none⟩ (.int .i64 r2.st)).setCell ⟨h, 4, none⟩ (.int .i64 r2.bg)).setCell ⟨h, 5, none⟩ (.int .i64 r2.err)).setCell ⟨h, 6, none⟩ (.int .i64 r2.pl)).heap[g]? = _ from seven_other (blk_below HP2.out HB3.out) hgh _ _ _ _ _ _ _)
          have HX3 := Lib.hid (show (((((((w3.setCell ⟨h, 0, none⟩ (.slice A2 r2.done.length c2)).setCell ⟨h, 1, none⟩ (.slice B2 r2.row.length e2)).setCell ⟨h, 2, none⟩ (.string r2.cell)).setCell ⟨h, 3, none⟩ (.int .i64 r2.st)).setCell ⟨h, 4, none⟩ (.int .i64 r2.bg)).setCell ⟨h, 5, none⟩ (.int .i64 r2.err)).setCell ⟨h, 6, none⟩ (.int .i64 r2.pl)).heap[h]? = some (.cells #[.slice A2 r2.done.length c2, .slice B2 r2.row.length e2, .string r2.cell, .int .i64 r2.st, .int .i64 r2.bg, .int .i64 r2.err, .int .i64 r2.pl] 82 (0, 0)) from by exact seven _ _ _ _ _ _ _ _ _ _ _ _ _ _ _ _ HBOX.out)
          have HBB := Lib.hid (show Below w.heap.size w (((((((w3.setCell ⟨h, 0, none⟩ (.slice A2 r2.done.length c2)).setCell ⟨h, 1, none⟩ (.slice B2 r2.row.length e2)).setCell ⟨h, 2, none⟩ (.string r2.cell)).setCell ⟨h, 3, none⟩ (.int .i64 r2.st)).setCell ⟨h, 4, none⟩ (.int .i64 r2.bg)).setCell ⟨h, 5, none⟩ (.int .i64 r2.err)).setCell ⟨h, 6, none⟩ (.int .i64 r2.pl)) from seven_below (below_step HB2.out HB3.out) HN.out _ _ _ _ _ _ _)
          have HV3 := Lib.hid (show RdF (((((((w3.setCell ⟨h, 0, none⟩ (.slice A2 r2.done.length c2)).setCell ⟨h, 1, none⟩ (.slice B2 r2.row.length e2)).setCell ⟨h, 2, none⟩ (.string r2.cell)).setCell ⟨h, 3, none⟩ (.int .i64 r2.st)).setCell ⟨h, 4, none⟩ (.int .i64 r2.bg)).setCell ⟨h, 5, none⟩ (.int .i64 r2.err)).setCell ⟨h, 6, none⟩ (.int .i64 r2.pl)) (.agg #[.slice A2 r2.done.length c2, .slice B2 r2.row.length e2, .string r2.cell, .int .i64 r2.st, .int .i64 r2.bg, .int .i64 r2.err, .int .i64 r2.pl]) r2 _ from seven_far (HV2.out.below HB3.out) (fun k hk => by have h1 := HH.out; have h2 := hk.2; omega) _ _ _ _ _ _ _)
          have HV4 := Lib.hid (HV3.out.mono (ok' := fun k => w.heap.size ≤ k ∧ k ≠ g) (fun k hk => by rcases hk.1 with h1 | h1; exact h1; exact ⟨Nat.le_trans HWR.out h1, fun e_ => by have h2 := HWG.out; omega⟩))
          clear xc0 xf0 xc1 xf1 xc2 xf2 xc3 xf3 xc4 xf4 xc5 xf5 xc6 xf6
          clear HP2 HB2 HB3 HV2 HV3 HBOX HWG HWR
          generalize (((((((w3.setCell ⟨h, 0, none⟩ (.slice A2 r2.done.length c2)).setCell ⟨h, 1, none⟩ (.slice B2 r2.row.length e2)).setCell ⟨h, 2, none⟩ (.string r2.cell)).setCell ⟨h, 3, none⟩ (.int .i64 r2.st)).setCell ⟨h, 4, none⟩ (.int .i64 r2.bg)).setCell ⟨h, 5, none⟩ (.int .i64 r2.err)).setCell ⟨h, 6, none⟩ (.int .i64 r2.pl)) = w4 at HP3 HX3 HBB HV4 ⊢
          have yc0 := blk_cell HP3.out 0; have yf0 := blk_frozen HP3.out 0; have yc1 := blk_cell HP3.out 1; have yf1 := blk_frozen HP3.out 1; have yc2 := blk_cell HP3.out 2; have yf2 := blk_frozen HP3.out 2; have yc3 := blk_cell HP3.out 3; have yf3 := blk_frozen HP3.out 3; have yc4 := blk_cell HP3.out 4; have yf4 := blk_frozen HP3.out 4; have yc5 := blk_cell HP3.out 5; have yf5 := blk_frozen HP3.out 5; have yc6 := blk_cell HP3.out 6; have yf6 := blk_frozen HP3.out 6; simp only [List.getElem?_toArray, List.getElem?_cons_zero, List.getElem?_cons_succ] at yc0 yc1 yc2 yc3 yc4 yc5 yc6
          have xc0 := blk_cell HX3.out 0; have xf0 := blk_frozen HX3.out 0; have xc1 := blk_cell HX3.out 1; have xf1 := blk_frozen HX3.out 1; have xc2 := blk_cell HX3.out 2; have xf2 := blk_frozen HX3.out 2; have xc3 := blk_cell HX3.out 3; have xf3 := blk_frozen HX3.out 3; have xc4 := blk_cell HX3.out 4; have xf4 := blk_frozen HX3.out 4; have xc5 := blk_cell HX3.out 5; have xf5 := blk_frozen HX3.out 5; have xc6 := blk_cell HX3.out 6; have xf6 := blk_frozen HX3.out 6; simp only [List.getElem?_toArray, List.getElem?_cons_zero, List.getElem?_cons_succ] at xc0 xc1 xc2 xc3 xc4 xc5 xc6
          by_cases he : r2.err = 0
          · have he0 : (r2.err != 0) = false := by rw [he]; rfl
            have HR' := Lib.hid (show refLoop s d k (p + n) r2 = X by have h1 := HR.out; rw [if_neg (by intro h2; exact h2 he)] at h1; exact h1)
            have HI := Lib.hid (HIN.out he)
            have hpn : wrap64 ((p : Int) + (n : Int)) = (p : Int) + (n : Int) := by rw [wrap_nat p n (by have := HI.out; omega)]; rfl
            have HPN := Lib.hid hpn
            clear he HR HIN hpn
            go_wp2
            go_roundw
            case rel =>
              refine ⟨k, p + n, r2, A2, c2, B2, e2, ?_, ⟨HG.out, by exact seven _ _ _ _ _ _ _ _ _ _ _ _ _ _ _ _ HP3.out, seven_far HV4.out (fun _ h => h.2) _ _ _ _ _ _ _, seven_below HBB.out (by rw [HG.out]; exact Nat.le_refl _) _ _ _ _ _ _ _, HI.out.2.2.2⟩, HR'.out, HI.out.2.2.1, ?_⟩
              · show Value.int .i64 (wrap64 ((p : Int) + (n : Int))) = Value.int .i64 ((p + n : Nat) : Int)
                rw [HPN.out, Int.natCast_add]
              · have h1 := HK.out
                have h2 := HI.out
                omega
            case measure =>
              exact meas_step s.size p n HI.out.1 HI.out.2.2.1 HPN.out
          · have he0 : (r2.err != 0) = true := bne_iff_ne.2 he
            have HR' := Lib.hid (show Sum.inl (r2.pl, r2.err) = X by have h1 := HR.out; rw [if_pos he] at h1; exact h1)
            clear he HR HIN
            go_wp2
            repeat (go_quiet (fail); try go_wp2)
            go_ret3
            have e1 := HR'.out
            subst e1
            exact ⟨_, rfl, Kd.V_nil _ _ _ _ _, pw_below_drewN HBB.out _⟩
    · rw [if_neg hp] at hR
      subst hR
      have hpe : p = s.size := by omega
      have hp1 : decide ((p : Int) < (s.size : Int)) = false := decide_eq_false (by omega)
      clear hle hk hp
      by_cases h2 : r.st = 2
      · have t2 : (r.st == 2) = true := beq_iff_eq.2 h2
        have hfin : refFin s (.inr r) = ([], r.bg, 4) := by show (if r.st = 2 then _ else _) = _; rw [if_pos h2]
        have HFIN := Lib.hid hfin
        clear h2 hfin
        go_wp2
        repeat (go_quiet (fail); try go_wp2)
        go_ret3
        rw [HFIN.out]
        exact ⟨_, rfl, Kd.V_nil _ _ _ _ _, pw_below_drewN HP.out.bel _⟩
      · have t2 : (r.st == 2) = false := beq_eq_false_iff_ne.2 h2
        by_cases hb : r.bg = s.size
        · have tb : (r.bg == (s.size : Int)) = true := beq_iff_eq.2 hb
          by_cases hr : r.row.length = 0
          · have tr : ((r.row.length : Int) == 0) = true := beq_iff_eq.2 (by omega)
            have hfin : refFin s (.inr r) = (r.done, 0, 0) := by show (if r.st = 2 then _ else _) = _; rw [if_neg h2, if_pos ⟨hb, hr⟩]
            have HFIN := Lib.hid hfin
            clear h2 hfin hb hr
            go_wp2
            go_ret3
            rw [HFIN.out]
            obtain ⟨A', c', B', e', hv, hl1, hl2, hF1, hF2⟩ := HP.out.rd
            simp only [Value.agg.injEq, Array.mk.injEq, List.cons.injEq, Value.slice.injEq, Value.string.injEq, Value.int.injEq, true_and, and_true] at hv
            obtain ⟨⟨rfl, rfl⟩, rfl, rfl⟩ := hv
            exact ⟨_, rfl, Kd.V_mk hl1 (Kd.F_mono hF1 (fun _ h => h.1)), HP.out.bel⟩
          · have tr : ((r.row.length : Int) == 0) = false := beq_eq_false_iff_ne.2 (by omega)
            by_cases h128 : 128 ≤ r.row.length
            · have t3 : decide ((128 : Int) ≤ (r.row.length : Int)) = true := decide_eq_true (by omega)
              have hfin : refFin s (.inr r) = ([], (s.size : Int), 7) := by show (if r.st = 2 then _ else _) = _; rw [if_neg h2, if_neg (fun h => hr h.2), if_pos ⟨hb, h128⟩]
              have HFIN := Lib.hid hfin
              clear h2 hfin hb hr h128
              go_wp2
              go_ret3
              rw [HFIN.out]
              exact ⟨_, rfl, Kd.V_nil _ _ _ _ _, HP.out.bel⟩
            · have t3 : decide ((128 : Int) ≤ (r.row.length : Int)) = false := decide_eq_false (by omega)
              have hfin : refFin s (.inr r) = ((recordR r).done, 0, 0) := by show (if r.st = 2 then _ else _) = _; rw [if_neg h2, if_neg (fun h => hr h.2), if_neg (fun h => h128 h.2)]
              clear hb hr h128
              have HFIN := Lib.hid hfin
              clear h2 hfin
              go_wp2_with fail
              refine (record_F _ r _ wr HP.out.rd (by have := HP.out.inv.cell; omega) (by have := HP.out.inv.row; omega) (by have := HP.out.inv.done; omega) HP.out.inv.err).mono ?_
              rintro ev w2 ⟨v2, rfl, hv2, hb2⟩
              have hre : ((recordR r).err != 0) = false := by show (r.err != 0) = false; rw [HP.out.inv.err]; rfl
              have HFIN2 := Lib.hid (show refFin s (.inr r) = ((recordR r).done, 0, 0) from HFIN.out)
              clear HFIN
              generalize hR2 : recordR r = r2 at hv2 hre HFIN2
              clear hR2
              have HB2 := Lib.hid (below_step HP.out.bel hb2)
              have HP2 := Lib.hid (show w2.heap[g]? = _ from blk_below HP.out.blk hb2)
              have HWG := Lib.hid (show g < wr.heap.size from blk_lt HP.out.blk)
              have HV2 := Lib.hid (seven_far hv2 (g := g) (fun k hk => by rcases hk with h1 | h1; exact h1.2; exact fun e_ => by have h3 := HWG.out; omega))
              have HWR := Lib.hid (show w.heap.size ≤ wr.heap.size from HP.out.bel.size)
              obtain ⟨A2, c2, B2, e2, hv2e, hx⟩ := hv2
              clear hx hb2 HP
              subst hv2e
              clear zc0 zf0 zc1 zf1 zc2 zf2 zc3 zf3 zc4 zf4 zc5 zf5 zc6 zf6
              have yc0 := blk_cell HP2.out 0; have yf0 := blk_frozen HP2.out 0; have yc1 := blk_cell HP2.out 1; have yf1 := blk_frozen HP2.out 1; have yc2 := blk_cell HP2.out 2; have yf2 := blk_frozen HP2.out 2; have yc3 := blk_cell HP2.out 3; have yf3 := blk_frozen HP2.out 3; have yc4 := blk_cell HP2.out 4; have yf4 := blk_frozen HP2.out 4; have yc5 := blk_cell HP2.out 5; have yf5 := blk_frozen HP2.out 5; have yc6 := blk_cell HP2.out 6; have yf6 := blk_frozen HP2.out 6; simp only [List.getElem?_toArray, List.getElem?_cons_zero, List.getElem?_cons_succ] at yc0 yc1 yc2 yc3 yc4 yc5 yc6
              go_wp2
              go_ret3
              rw [HFIN2.out]
              obtain ⟨A', c', B', e', hv, hl1, hl2, hF1, hF2⟩ := HV2.out (.slice A2 r2.done.length c2) (.slice B2 r2.row.length e2) (.string r2.cell) (.int .i64 r2.st) (.int .i64 r2.bg) (.int .i64 r2.err) (.int .i64 r2.pl)
              simp only [Value.agg.injEq, Array.mk.injEq, List.cons.injEq, Value.slice.injEq, Value.string.injEq, Value.int.injEq, true_and, and_true] at hv
              obtain ⟨⟨rfl, rfl⟩, rfl, rfl⟩ := hv
              exact ⟨_, rfl, Kd.V_mk hl1 (Kd.F_mono hF1 (fun k h => h.elim (fun h => h.1) (fun h => Nat.le_trans HWR.out h))), seven_below HB2.out (by rw [HG.out]; exact Nat.le_refl _) _ _ _ _ _ _ _⟩
        · have tb : (r.bg == (s.size : Int)) = false := beq_eq_false_iff_ne.2 hb
          have hfin : refFin s (.inr r) = ((recordR r).done, 0, 0) := by show (if r.st = 2 then _ else _) = _; rw [if_neg h2, if_neg (fun h => hb h.1), if_neg (fun h => hb h.1)]
          clear hb
          have HFIN := Lib.hid hfin
          clear h2 hfin
          go_wp2_with fail
          refine (record_F _ r _ wr HP.out.rd (by have := HP.out.inv.cell; omega) (by have := HP.out.inv.row; omega) (by have := HP.out.inv.done; omega) HP.out.inv.err).mono ?_
          rintro ev w2 ⟨v2, rfl, hv2, hb2⟩
          have hre : ((recordR r).err != 0) = false := by show (r.err != 0) = false; rw [HP.out.inv.err]; rfl
          have HFIN2 := Lib.hid (show refFin s (.inr r) = ((recordR r).done, 0, 0) from HFIN.out)
          clear HFIN
          generalize hR2 : recordR r = r2 at hv2 hre HFIN2
          clear hR2
          have HB2 := Lib.hid (below_step HP.out.bel hb2)
          have HP2 := Lib.hid (show w2.heap[g]? = _ from blk_below HP.out.blk hb2)
          have HWG := Lib.hid (show g < wr.heap.size from blk_lt HP.out.blk)
          have HV2 := Lib.hid (seven_far hv2 (g := g) (fun k hk => by rcases hk with h1 | h1; exact h1.2; exact fun e_ => by have h3 := HWG.out; omega))
          have HWR := Lib.hid (show w.heap.size ≤ wr.heap.size from HP.out.bel.size)
          obtain ⟨A2, c2, B2, e2, hv2e, hx⟩ := hv2
          clear hx hb2 HP
          subst hv2e
          clear zc0 zf0 zc1 zf1 zc2 zf2 zc3 zf3 zc4 zf4 zc5 zf5 zc6 zf6
          have yc0 := blk_cell HP2.out 0; have yf0 := blk_frozen HP2.out 0; have yc1 := blk_cell HP2.out 1; have yf1 := blk_frozen HP2.out 1; have yc2 := blk_cell HP2.out 2; have yf2 := blk_frozen HP2.out 2; have yc3 := blk_cell HP2.out 3; have yf3 := blk_frozen HP2.out 3; have yc4 := blk_cell HP2.out 4; have yf4 := blk_frozen HP2.out 4; have yc5 := blk_cell HP2.out 5; have yf5 := blk_frozen HP2.out 5; have yc6 := blk_cell HP2.out 6; have yf6 := blk_frozen HP2.out 6; simp only [List.getElem?_toArray, List.getElem?_cons_zero, List.getElem?_cons_succ] at yc0 yc1 yc2 yc3 yc4 yc5 yc6
          go_wp2
          go_ret3
          rw [HFIN2.out]
          obtain ⟨A', c', B', e', hv, hl1, hl2, hF1, hF2⟩ := HV2.out (.slice A2 r2.done.length c2) (.slice B2 r2.row.length e2) (.string r2.cell) (.int .i64 r2.st) (.int .i64 r2.bg) (.int .i64 r2.err) (.int .i64 r2.pl)
          simp only [Value.agg.injEq, Array.mk.injEq, List.cons.injEq, Value.slice.injEq, Value.string.injEq, Value.int.injEq, true_and, and_true] at hv
          obtain ⟨⟨rfl, rfl⟩, rfl, rfl⟩ := hv
          exact ⟨_, rfl, Kd.V_mk hl1 (Kd.F_mono hF1 (fun k h => h.elim (fun h => h.1) (fun h => Nat.le_trans HWR.out h))), seven_below HB2.out (by rw [HG.out]; exact Nat.le_refl _) _ _ _ _ _ _ _⟩
end Go.Proofs.Ytggodagdfldndaa

namespace Go.Proofs.Ytggodagdfldndaa
open Go.RowKit Go.Proofs.YtggodagdfldndaaW.PrintWords Go.Proofs.YtggodagdfldndaaW.PrintLast Go.Proofs.YtggodagdfldndaaW.PrintMore
open Q Q.L
def refParse (s : ByteArray) (d : Int) : List (List ByteArray) × Int × Int := if goodI d = true then refFin s (refLoop s d (s.size + 1) 0 rd0) else ([], 0, 2)
set_option maxHeartbeats 4000000 in
set_option maxRecDepth 100000 in
theorem refparse_bad (s : ByteArray) (d : Int) (w : World) (hg : goodI d = false) :
    Calls Try.prog 41 #[.string s, .int .u8 d] w fun ev w' => ∃ v, ev = .returned (.tuple #[v, .int .i64 0, .int .i64 2]) ∧ Kd.V (Kd.slice 9 Kd.string) 38 w' w.heap.size (fun k => w.heap.size ≤ k) v [] ∧ Below w.heap.size w w' := by
  have Hg := Lib.hid (show tartanref01_Good.f d = some false by rw [ref01_Good_f, hg])
  clear hg
  go_enter Try.func41, Try.ntmps41
  go_wp2_with fail
  refine (tartanref01_Good.calls d false _ Hg.out).mono ?_
  rintro e w' ⟨rfl, ⟨nd, rfl⟩⟩
  go_wp2
  go_ret3
  exact ⟨_, rfl, Kd.V_nil _ _ _ _ _, pw_below_drewN (Below.refl _ w) nd⟩
end Go.Proofs.Ytggodagdfldndaa
namespace Go.Proofs.Ytggodagdfldndaa.Q.L.Z.U
open Go.RowKit Go.Proofs.YtggodagdfldndaaW.PrintWords Go.Proofs.YtggodagdfldndaaW.PrintLast Go.Proofs.YtggodagdfldndaaW.PrintMore
def tartanref03_Parse.f (_k : Nat) (a0 : ByteArray) (a1 : Int) : Option (List (List ByteArray) × Int × Int) := if a0.size ≤ 3000 then some (refParse a0 a1) else none
theorem tartanref03_Parse.mono : ∀ a0 a1 k, LeO (tartanref03_Parse.f k a0 a1) (tartanref03_Parse.f (k + 1) a0 a1) := fun _ _ _ => LeO.refl _
theorem tartanref03_Parse.calls (k : Nat) (a0 : ByteArray) (a1 : Int) (r1 : List (List ByteArray)) (r2 : Int) (r3 : Int) (w : World) (h : tartanref03_Parse.f k a0 a1 = some (r1, r2, r3)) :
    Calls Try.prog 41 #[.string a0, .int .u8 a1] w fun e w' => ∃ v0_ : Value, e = .returned (.tuple #[v0_, .int .i64 r2, .int .i64 r3]) ∧ Kd.V (Kd.slice 9 Kd.string) 38 w' w.heap.size (fun k_ => (w.heap.size ≤ k_)) v0_ r1 ∧ Below w.heap.size w w' := by
  unfold tartanref03_Parse.f at h
  split at h
  · rename_i hs
    have h := Option.some.inj h
    unfold refParse at h
    cases hg : goodI a1 with
    | true =>
      rw [if_pos hg] at h
      have := refparse_walk a0 a1 w hs hg _ rfl
      rw [h] at this
      exact this
    | false =>
      rw [if_neg (by rw [hg]; simp)] at h
      simp only [Prod.mk.injEq] at h
      obtain ⟨rfl, rfl, rfl⟩ := h
      exact refparse_bad a0 a1 w hg
  · cases h
end Go.Proofs.Ytggodagdfldndaa.Q.L.Z.U

namespace Go.Proofs.Ytggodagdfldndaa.Q.L.Z.U
open Go.RowKit Go.Proofs.YtggodagdfldndaaW.PrintWords Go.Proofs.YtggodagdfldndaaW.PrintLast Go.Proofs.YtggodagdfldndaaW.PrintMore
attribute [local go_sem] max2_int min2_int max_two min_two max_three min_three max_four min_four   -- for this text's walks alone
set_option linter.unusedVariables false
set_option linter.unusedSimpArgs false

/-! ### tartanlaw03_CsvParses: function 12 -/
def tartanlaw03_CsvParses.f (k : Nat) (a0 : ByteArray) (a1 : Int) : Option (Bool) := (tartanlaw03_works.f).bind fun t237 => (if t237 = true then (if (a0.size : Int) > 3000 then (some t237) else ((csv_Parse.f a0 a1).bind fun bt238 => ((tartanref03_Parse.f k a0 a1).bind fun bt243 => ((tartanref03_Same.f k bt238.1 bt243.1).bind fun t248 => (if t248 = true then (if bt238.2.1 = bt243.2.1 then (some (bt238.2.2 == bt243.2.2)) else (some false)) else (some false)))))) else (some false))
theorem tartanlaw03_CsvParses.mono : ∀ a0 a1 k, LeO (tartanlaw03_CsvParses.f k a0 a1) (tartanlaw03_CsvParses.f (k + 1) a0 a1) := by
  intro a0 a1 k
  unfold tartanlaw03_CsvParses.f
  repeat' first
      | (with_reducible exact tartanref03_Parse.mono _ _ _)
      | (with_reducible exact tartanref03_Same.mono _ _ _)
      | (with_reducible exact LeO.refl _)
      | (with_reducible exact LeO.none _)
      | (with_reducible refine LeO.ite ?_ ?_)
      | (with_reducible refine LeO.bind ?_ (fun _ => ?_))
      | exact tartanref03_Parse.mono _ _ _
      | exact tartanref03_Same.mono _ _ _
      | exact LeO.none _
      | refine LeO.ite ?_ ?_
      | refine LeO.bind ?_ (fun _ => ?_)
set_option maxHeartbeats 8000000 in
set_option maxRecDepth 100000 in
theorem tartanlaw03_CsvParses.calls (k : Nat) (a0 : ByteArray) (a1 : Int) (r : Bool) (w : World) (h : tartanlaw03_CsvParses.f k a0 a1 = some r) :
    Calls Try.prog 12 #[.string a0, .int .u8 a1] w fun e w' => e = .returned (.bool r) ∧ Below w.heap.size w w' := by
  have HB := Aside0.mk (Below.refl w.heap.size w)
  have H : ((tartanlaw03_works.f).bind fun t237 => (if t237 = true then (if (a0.size : Int) > 3000 then (some t237) else ((csv_Parse.f a0 a1).bind fun bt238 => ((tartanref03_Parse.f k a0 a1).bind fun bt243 => ((tartanref03_Same.f k bt238.1 bt243.1).bind fun t248 => (if t248 = true then (if bt238.2.1 = bt243.2.1 then (some (bt238.2.2 == bt243.2.2)) else (some false)) else (some false)))))) else (some false))) = some r := h
  clear h
  replace H := Option.bind_eq_some_iff.mp H
  obtain ⟨t237, A30, H⟩ := H
  replace H : (if t237 = true then (if (a0.size : Int) > 3000 then (some t237) else ((csv_Parse.f a0 a1).bind fun bt238 => ((tartanref03_Parse.f k a0 a1).bind fun bt243 => ((tartanref03_Same.f k bt238.1 bt243.1).bind fun t248 => (if t248 = true then (if bt238.2.1 = bt243.2.1 then (some (bt238.2.2 == bt243.2.2)) else (some false)) else (some false)))))) else (some false)) = some r := H
  have A3 := Aside0.mk A30
  clear A30
  by_cases c4 : t237 = true
  · subst c4
    have H1 : (if (a0.size : Int) > 3000 then (some true) else ((csv_Parse.f a0 a1).bind fun bt238 => ((tartanref03_Parse.f k a0 a1).bind fun bt243 => ((tartanref03_Same.f k bt238.1 bt243.1).bind fun t248 => (if t248 = true then (if bt238.2.1 = bt243.2.1 then (some (bt238.2.2 == bt243.2.2)) else (some false)) else (some false)))))) = some r := by rw [if_pos rfl] at H; exact H
    clear H
    have H := H1
    clear H1
    by_cases c5 : (a0.size : Int) > 3000
    · rw [if_pos c5] at H
      have c5b0 : decide (3000 < (a0.size : Int)) = true := decide_eq_true c5
      have c5b1 : decide (3000 < a0.size) = true := decide_eq_true (by omega)
      clear c5
      obtain rfl := Option.some.inj H
      go_enter Try.func12, Try.ntmps12
      go_wp2_with (first | ((with_reducible refine gate_callee (f := 39) rfl ?_); refine goesL_ (some 13) rfl rfl Try.func39 (by kernel_rfl) rfl #[] rfl (by (try simp only [List.map_toArray, List.map_cons, List.map_nil]); first | done | rfl | (simp only [List.length_drop, List.length_take]; rfl)) ?_; (with_reducible refine (tartanlaw03_works.calls  true _ A3.out).mono ?_); rintro e w6 ⟨rfl, hb⟩; refine ⟨_, rfl, ?_⟩; have n0_ := Aside0.mk (below_step (by repeat (first | (with_reducible first | exact HB.out | apply below_alloc | apply pw_below_drewN | apply below_drew1) | exact HB.out)) hb); clear HB; have HB := n0_; clear n0_; (try clear hb); (try clear hb2); (try clear hk); (try clear hi)))
      go_ret
      exact ⟨by first | rfl | (simp [errW_none, errW_some] <;> rfl) | (simp [*, errW_none, errW_some] <;> rfl), by repeat (first | (with_reducible first | exact HB.out | apply below_alloc | apply pw_below_drewN | apply below_drew1) | exact HB.out)⟩
    · rw [if_neg c5] at H
      have c5b0 : decide (3000 < (a0.size : Int)) = false := decide_eq_false c5
      have c5b1 : decide (3000 < a0.size) = false := decide_eq_false (by omega)
      clear c5
      replace H := Option.bind_eq_some_iff.mp H
      obtain ⟨⟨t238, t239, t240⟩, A70, H⟩ := H
      replace H : ((tartanref03_Parse.f k a0 a1).bind fun bt243 => ((tartanref03_Same.f k t238 bt243.1).bind fun t248 => (if t248 = true then (if t239 = bt243.2.1 then (some (t240 == bt243.2.2)) else (some false)) else (some false)))) = some r := H
      have A7 := Aside0.mk A70
      clear A70
      replace H := Option.bind_eq_some_iff.mp H
      obtain ⟨⟨t243, t246, t247⟩, A80, H⟩ := H
      replace H : ((tartanref03_Same.f k t238 t243).bind fun t248 => (if t248 = true then (if t239 = t246 then (some (t240 == t247)) else (some false)) else (some false))) = some r := H
      have A8 := Aside0.mk A80
      clear A80
      replace H := Option.bind_eq_some_iff.mp H
      obtain ⟨t248, A90, H⟩ := H
      replace H : (if t248 = true then (if t239 = t246 then (some (t240 == t247)) else (some false)) else (some false)) = some r := H
      have A9 := Aside0.mk A90
      clear A90
      by_cases c10 : t248 = true
      · subst c10
        have H1 : (if t239 = t246 then (some (t240 == t247)) else (some false)) = some r := by rw [if_pos rfl] at H; exact H
        clear H
        have H := H1
        clear H1
        by_cases c11 : t239 = t246
        · rw [if_pos c11] at H
          have c11b0 : (t239 == t246) = true := beq_iff_eq.mpr c11
          have c11b1 : (t239 != t246) = false := bne_eq_false_iff_eq.mpr c11
          clear c11
          obtain rfl := Option.some.inj H
          go_enter Try.func12, Try.ntmps12
          go_wp2_with (first | ((with_reducible refine gate_callee (f := 39) rfl ?_); refine goesL_ (some 13) rfl rfl Try.func39 (by kernel_rfl) rfl #[] rfl (by (try simp only [List.map_toArray, List.map_cons, List.map_nil]); first | done | rfl | (simp only [List.length_drop, List.length_take]; rfl)) ?_; (with_reducible refine (tartanlaw03_works.calls  true _ A3.out).mono ?_); rintro e w12 ⟨rfl, hb⟩; refine ⟨_, rfl, ?_⟩; have n0_ := Aside0.mk (below_step (by repeat (first | (with_reducible first | exact HB.out | apply below_alloc | apply pw_below_drewN | apply below_drew1) | exact HB.out)) hb); clear HB; have HB := n0_; clear n0_; (try clear hb); (try clear hb2); (try clear hk); (try clear hi)) | ((with_reducible refine gate_callee (f := 40) rfl ?_); refine goesL_ (some 23) rfl rfl Try.func40 (by kernel_rfl) rfl #[.string a0, .int .u8 a1] rfl (by (try simp only [List.map_toArray, List.map_cons, List.map_nil]); first | done | rfl | (simp only [List.length_drop, List.length_take]; rfl)) ?_; (with_reducible refine (csv_Parse.calls a0 a1 t238 t239 t240 _ A7.out).mono ?_); rintro e w13 ⟨v241, rfl, ho0, hb⟩; refine ⟨_, rfl, ?_⟩; have n0_ := Aside0.mk (Kd.S_lower ho0 (below_size (by repeat (first | (with_reducible first | exact HB.out | apply below_alloc | apply pw_below_drewN | apply below_drew1) | exact HB.out)))); have n1_ := Aside0.mk (below_step (by repeat (first | (with_reducible first | exact HB.out | apply below_alloc | apply pw_below_drewN | apply below_drew1) | exact HB.out)) hb); clear HB; have HO242 := n0_; have HB := n1_; clear n0_ n1_; (try clear hb); (try clear hb2); (try clear hk); (try clear hi); (try clear ho0)) | ((with_reducible refine gate_callee (f := 41) rfl ?_); refine goesL_ (some 30) rfl rfl Try.func41 (by kernel_rfl) rfl #[.string a0, .int .u8 a1] rfl (by (try simp only [List.map_toArray, List.map_cons, List.map_nil]); first | done | rfl | (simp only [List.length_drop, List.length_take]; rfl)) ?_; (with_reducible refine (tartanref03_Parse.calls k a0 a1 t243 t246 t247 _ A8.out).mono ?_); rintro e w14 ⟨v244, rfl, ho0, hb⟩; refine ⟨_, rfl, ?_⟩; have n0_ := Aside0.mk (Kd.S_below (by (with_reducible repeat (first | apply Kd.S_alloc | apply Kd.S_drewN | apply Kd.S_drew)); exact HO242.out) hb); have n1_ := Aside0.mk (Kd.V_lower (Kd.V_mono (ok' := fun k_ => some k_ ≠ (v241 : Value).ownBlock) ho0 (fun k_ hk_ => (Kd.fresh' (Kd.S_lt (by (with_reducible repeat (first | apply Kd.S_alloc | apply Kd.S_drewN | apply Kd.S_drew)); exact HO242.out)) k_ hk_))) (below_size (by repeat (first | (with_reducible first | exact HB.out | apply below_alloc | apply pw_below_drewN | apply below_drew1) | exact HB.out)))); have n2_ := Aside0.mk (below_step (by repeat (first | (with_reducible first | exact HB.out | apply below_alloc | apply pw_below_drewN | apply below_drew1) | exact HB.out)) hb); clear HO242; clear HB; have HO242 := n0_; have HO245 := n1_; have HB := n2_; clear n0_ n1_ n2_; (try clear hb); (try clear hb2); (try clear hk); (try clear hi); (try clear ho0); obtain ⟨Ao15, co15, eo15⟩ := Kd.S_slice HO242.out; subst eo15; obtain ⟨Ao16, co16, eo16⟩ := Kd.V_slice HO245.out; subst eo16) | ((with_reducible refine gate_callee (f := 42) rfl ?_); refine goesL_ (some 36) rfl rfl Try.func42 (by kernel_rfl) rfl #[.slice Ao15 t238.length co15, .slice Ao16 t243.length co16] rfl (by (try simp only [List.map_toArray, List.map_cons, List.map_nil]); first | done | rfl | (simp only [List.length_drop, List.length_take]; rfl)) ?_; (with_reducible refine (tartanref03_Same.calls k _ _ t238 _ _ t243 true _ ?side1 ?side2 ?side3 ?side4 A9.out).mono ?_); (case side1 => repeat (first | exact (Kd.S_reads' HO242.out).2.2 | (with_reducible refine Kd.C_alloc ?_ _) | (with_reducible refine Kd.C_drewN ?_ _) | (with_reducible refine Kd.C_drew ?_))); (case side2 => exact (Kd.S_reads' HO242.out).2.1); (case side3 => repeat (first | exact (Kd.V_reads' HO245.out).2.2 | (with_reducible refine Kd.C_alloc ?_ _) | (with_reducible refine Kd.C_drewN ?_ _) | (with_reducible refine Kd.C_drew ?_))); (case side4 => exact (Kd.V_reads' HO245.out).2.1); rintro e w' ⟨rfl, ⟨nd, rfl⟩⟩; refine ⟨_, rfl, ?_⟩))
          go_ret
          exact ⟨by first | rfl | (simp [errW_none, errW_some] <;> rfl) | (simp [*, errW_none, errW_some] <;> rfl), by repeat (first | (with_reducible first | exact HB.out | apply below_alloc | apply pw_below_drewN | apply below_drew1) | exact HB.out)⟩
        · rw [if_neg c11] at H
          have c11b0 : (t239 == t246) = false := beq_eq_false_iff_ne.mpr c11
          have c11b1 : (t239 != t246) = true := bne_iff_ne.mpr c11
          obtain rfl := Option.some.inj H
          go_enter Try.func12, Try.ntmps12
          go_wp2_with (first | ((with_reducible refine gate_callee (f := 39) rfl ?_); refine goesL_ (some 13) rfl rfl Try.func39 (by kernel_rfl) rfl #[] rfl (by (try simp only [List.map_toArray, List.map_cons, List.map_nil]); first | done | rfl | (simp only [List.length_drop, List.length_take]; rfl)) ?_; (with_reducible refine (tartanlaw03_works.calls  true _ A3.out).mono ?_); rintro e w17 ⟨rfl, hb⟩; refine ⟨_, rfl, ?_⟩; have n0_ := Aside0.mk (below_step (by repeat (first | (with_reducible first | exact HB.out | apply below_alloc | apply pw_below_drewN | apply below_drew1) | exact HB.out)) hb); clear HB; have HB := n0_; clear n0_; (try clear hb); (try clear hb2); (try clear hk); (try clear hi)) | ((with_reducible refine gate_callee (f := 40) rfl ?_); refine goesL_ (some 23) rfl rfl Try.func40 (by kernel_rfl) rfl #[.string a0, .int .u8 a1] rfl (by (try simp only [List.map_toArray, List.map_cons, List.map_nil]); first | done | rfl | (simp only [List.length_drop, List.length_take]; rfl)) ?_; (with_reducible refine (csv_Parse.calls a0 a1 t238 t239 t240 _ A7.out).mono ?_); rintro e w18 ⟨v241, rfl, ho0, hb⟩; refine ⟨_, rfl, ?_⟩; have n0_ := Aside0.mk (Kd.S_lower ho0 (below_size (by repeat (first | (with_reducible first | exact HB.out | apply below_alloc | apply pw_below_drewN | apply below_drew1) | exact HB.out)))); have n1_ := Aside0.mk (below_step (by repeat (first | (with_reducible first | exact HB.out | apply below_alloc | apply pw_below_drewN | apply below_drew1) | exact HB.out)) hb); clear HB; have HO242 := n0_; have HB := n1_; clear n0_ n1_; (try clear hb); (try clear hb2); (try clear hk); (try clear hi); (try clear ho0)) | ((with_reducible refine gate_callee (f := 41) rfl ?_); refine goesL_ (some 30) rfl rfl Try.func41 (by kernel_rfl) rfl #[.string a0, .int .u8 a1] rfl (by (try simp only [List.map_toArray, List.map_cons, List.map_nil]); first | done | rfl | (simp only [List.length_drop, List.length_take]; rfl)) ?_; (with_reducible refine (tartanref03_Parse.calls k a0 a1 t243 t246 t247 _ A8.out).mono ?_); rintro e w19 ⟨v244, rfl, ho0, hb⟩; refine ⟨_, rfl, ?_⟩; have n0_ := Aside0.mk (Kd.S_below (by (with_reducible repeat (first | apply Kd.S_alloc | apply Kd.S_drewN | apply Kd.S_drew)); exact HO242.out) hb); have n1_ := Aside0.mk (Kd.V_lower (Kd.V_mono (ok' := fun k_ => some k_ ≠ (v241 : Value).ownBlock) ho0 (fun k_ hk_ => (Kd.fresh' (Kd.S_lt (by (with_reducible repeat (first | apply Kd.S_alloc | apply Kd.S_drewN | apply Kd.S_drew)); exact HO242.out)) k_ hk_))) (below_size (by repeat (first | (with_reducible first | exact HB.out | apply below_alloc | apply pw_below_drewN | apply below_drew1) | exact HB.out)))); have n2_ := Aside0.mk (below_step (by repeat (first | (with_reducible first | exact HB.out | apply below_alloc | apply pw_below_drewN | apply below_drew1) | exact HB.out)) hb); clear HO242; clear HB; have HO242 := n0_; have HO245 := n1_; have HB := n2_; clear n0_ n1_ n2_; (try clear hb); (try clear hb2); (try clear hk); (try clear hi); (try clear ho0); obtain ⟨Ao20, co20, eo20⟩ := Kd.S_slice HO242.out; subst eo20; obtain ⟨Ao21, co21, eo21⟩ := Kd.V_slice HO245.out; subst eo21) | ((with_reducible refine gate_callee (f := 42) rfl ?_); refine goesL_ (some 36) rfl rfl Try.func42 (by kernel_rfl) rfl #[.slice Ao20 t238.length co20, .slice Ao21 t243.length co21] rfl (by (try simp only [List.map_toArray, List.map_cons, List.map_nil]); first | done | rfl | (simp only [List.length_drop, List.length_take]; rfl)) ?_; (with_reducible refine (tartanref03_Same.calls k _ _ t238 _ _ t243 true _ ?side1 ?side2 ?side3 ?side4 A9.out).mono ?_); (case side1 => repeat (first | exact (Kd.S_reads' HO242.out).2.2 | (with_reducible refine Kd.C_alloc ?_ _) | (with_reducible refine Kd.C_drewN ?_ _) | (with_reducible refine Kd.C_drew ?_))); (case side2 => exact (Kd.S_reads' HO242.out).2.1); (case side3 => repeat (first | exact (Kd.V_reads' HO245.out).2.2 | (with_reducible refine Kd.C_alloc ?_ _) | (with_reducible refine Kd.C_drewN ?_ _) | (with_reducible refine Kd.C_drew ?_))); (case side4 => exact (Kd.V_reads' HO245.out).2.1); rintro e w' ⟨rfl, ⟨nd, rfl⟩⟩; refine ⟨_, rfl, ?_⟩))
          go_ret
          exact ⟨by first | rfl | (simp [errW_none, errW_some] <;> rfl) | (simp [*, errW_none, errW_some] <;> rfl), by repeat (first | (with_reducible first | exact HB.out | apply below_alloc | apply pw_below_drewN | apply below_drew1) | exact HB.out)⟩
      · replace c10 := Bool.eq_false_iff.mpr c10
        subst c10
        have H1 : (some false) = some r := by rw [if_neg (show ¬ (false = true) by decide)] at H; exact H
        clear H
        have H := H1
        clear H1
        obtain rfl := Option.some.inj H
        go_enter Try.func12, Try.ntmps12
        go_wp2_with (first | ((with_reducible refine gate_callee (f := 39) rfl ?_); refine goesL_ (some 13) rfl rfl Try.func39 (by kernel_rfl) rfl #[] rfl (by (try simp only [List.map_toArray, List.map_cons, List.map_nil]); first | done | rfl | (simp only [List.length_drop, List.length_take]; rfl)) ?_; (with_reducible refine (tartanlaw03_works.calls  true _ A3.out).mono ?_); rintro e w22 ⟨rfl, hb⟩; refine ⟨_, rfl, ?_⟩; have n0_ := Aside0.mk (below_step (by repeat (first | (with_reducible first | exact HB.out | apply below_alloc | apply pw_below_drewN | apply below_drew1) | exact HB.out)) hb); clear HB; have HB := n0_; clear n0_; (try clear hb); (try clear hb2); (try clear hk); (try clear hi)) | ((with_reducible refine gate_callee (f := 40) rfl ?_); refine goesL_ (some 23) rfl rfl Try.func40 (by kernel_rfl) rfl #[.string a0, .int .u8 a1] rfl (by (try simp only [List.map_toArray, List.map_cons, List.map_nil]); first | done | rfl | (simp only [List.length_drop, List.length_take]; rfl)) ?_; (with_reducible refine (csv_Parse.calls a0 a1 t238 t239 t240 _ A7.out).mono ?_); rintro e w23 ⟨v241, rfl, ho0, hb⟩; refine ⟨_, rfl, ?_⟩; have n0_ := Aside0.mk (Kd.S_lower ho0 (below_size (by repeat (first | (with_reducible first | exact HB.out | apply below_alloc | apply pw_below_drewN | apply below_drew1) | exact HB.out)))); have n1_ := Aside0.mk (below_step (by repeat (first | (with_reducible first | exact HB.out | apply below_alloc | apply pw_below_drewN | apply below_drew1) | exact HB.out)) hb); clear HB; have HO242 := n0_; have HB := n1_; clear n0_ n1_; (try clear hb); (try clear hb2); (try clear hk); (try clear hi); (try clear ho0)) | ((with_reducible refine gate_callee (f := 41) rfl ?_); refine goesL_ (some 30) rfl rfl Try.func41 (by kernel_rfl) rfl #[.string a0, .int .u8 a1] rfl (by (try simp only [List.map_toArray, List.map_cons, List.map_nil]); first | done | rfl | (simp only [List.length_drop, List.length_take]; rfl)) ?_; (with_reducible refine (tartanref03_Parse.calls k a0 a1 t243 t246 t247 _ A8.out).mono ?_); rintro e w24 ⟨v244, rfl, ho0, hb⟩; refine ⟨_, rfl, ?_⟩; have n0_ := Aside0.mk (Kd.S_below (by (with_reducible repeat (first | apply Kd.S_alloc | apply Kd.S_drewN | apply Kd.S_drew)); exact HO242.out) hb); have n1_ := Aside0.mk (Kd.V_lower (Kd.V_mono (ok' := fun k_ => some k_ ≠ (v241 : Value).ownBlock) ho0 (fun k_ hk_ => (Kd.fresh' (Kd.S_lt (by (with_reducible repeat (first | apply Kd.S_alloc | apply Kd.S_drewN | apply Kd.S_drew)); exact HO242.out)) k_ hk_))) (below_size (by repeat (first | (with_reducible first | exact HB.out | apply below_alloc | apply pw_below_drewN | apply below_drew1) | exact HB.out)))); have n2_ := Aside0.mk (below_step (by repeat (first | (with_reducible first | exact HB.out | apply below_alloc | apply pw_below_drewN | apply below_drew1) | exact HB.out)) hb); clear HO242; clear HB; have HO242 := n0_; have HO245 := n1_; have HB := n2_; clear n0_ n1_ n2_; (try clear hb); (try clear hb2); (try clear hk); (try clear hi); (try clear ho0); obtain ⟨Ao25, co25, eo25⟩ := Kd.S_slice HO242.out; subst eo25; obtain ⟨Ao26, co26, eo26⟩ := Kd.V_slice HO245.out; subst eo26) | ((with_reducible refine gate_callee (f := 42) rfl ?_); refine goesL_ (some 36) rfl rfl Try.func42 (by kernel_rfl) rfl #[.slice Ao25 t238.length co25, .slice Ao26 t243.length co26] rfl (by (try simp only [List.map_toArray, List.map_cons, List.map_nil]); first | done | rfl | (simp only [List.length_drop, List.length_take]; rfl)) ?_; (with_reducible refine (tartanref03_Same.calls k _ _ t238 _ _ t243 false _ ?side1 ?side2 ?side3 ?side4 A9.out).mono ?_); (case side1 => repeat (first | exact (Kd.S_reads' HO242.out).2.2 | (with_reducible refine Kd.C_alloc ?_ _) | (with_reducible refine Kd.C_drewN ?_ _) | (with_reducible refine Kd.C_drew ?_))); (case side2 => exact (Kd.S_reads' HO242.out).2.1); (case side3 => repeat (first | exact (Kd.V_reads' HO245.out).2.2 | (with_reducible refine Kd.C_alloc ?_ _) | (with_reducible refine Kd.C_drewN ?_ _) | (with_reducible refine Kd.C_drew ?_))); (case side4 => exact (Kd.V_reads' HO245.out).2.1); rintro e w' ⟨rfl, ⟨nd, rfl⟩⟩; refine ⟨_, rfl, ?_⟩))
        go_ret
        exact ⟨by first | rfl | (simp [errW_none, errW_some] <;> rfl) | (simp [*, errW_none, errW_some] <;> rfl), by repeat (first | (with_reducible first | exact HB.out | apply below_alloc | apply pw_below_drewN | apply below_drew1) | exact HB.out)⟩
  · replace c4 := Bool.eq_false_iff.mpr c4
    subst c4
    have H1 : (some false) = some r := by rw [if_neg (show ¬ (false = true) by decide)] at H; exact H
    clear H
    have H := H1
    clear H1
    obtain rfl := Option.some.inj H
    go_enter Try.func12, Try.ntmps12
    go_wp2_with (first | ((with_reducible refine gate_callee (f := 39) rfl ?_); refine goesL_ (some 13) rfl rfl Try.func39 (by kernel_rfl) rfl #[] rfl (by (try simp only [List.map_toArray, List.map_cons, List.map_nil]); first | done | rfl | (simp only [List.length_drop, List.length_take]; rfl)) ?_; (with_reducible refine (tartanlaw03_works.calls  false _ A3.out).mono ?_); rintro e w27 ⟨rfl, hb⟩; refine ⟨_, rfl, ?_⟩; have n0_ := Aside0.mk (below_step (by repeat (first | (with_reducible first | exact HB.out | apply below_alloc | apply pw_below_drewN | apply below_drew1) | exact HB.out)) hb); clear HB; have HB := n0_; clear n0_; (try clear hb); (try clear hb2); (try clear hk); (try clear hi)))
    go_ret
    exact ⟨by first | rfl | (simp [errW_none, errW_some] <;> rfl) | (simp [*, errW_none, errW_some] <;> rfl), by repeat (first | (with_reducible first | exact HB.out | apply below_alloc | apply pw_below_drewN | apply below_drew1) | exact HB.out)⟩

/-- THE ONE PURE STATEMENT of tartanlaw03_CsvParses: yours. -/
def tartanlaw03_CsvParses.Pure : Prop := ∀ (a0 : ByteArray) (a1 : Int), a0.size ≤ 140737488351232 → (Lit.int .u8 a1).wf = true → ∃ k, tartanlaw03_CsvParses.f k a0 a1 = some true
theorem tartanlaw03_CsvParses.walk (P : tartanlaw03_CsvParses.Pure) (a0 : ByteArray) (a1 : Int) (w : World) (w0 : a0.size ≤ 140737488351232) (w1 : (Lit.int .u8 a1).wf = true) :
    Calls Try.prog 12 #[.string a0, .int .u8 a1] w fun e w' => e = .returned (.bool true) ∧ Below w.heap.size w w' := by
  obtain ⟨k, h⟩ := P a0 a1 w0 w1
  refine (tartanlaw03_CsvParses.calls k a0 a1 true w h).mono ?_
  rintro e w' ⟨rfl, hd⟩
  exact ⟨rfl, hd⟩

end Go.Proofs.Ytggodagdfldndaa.Q.L.Z.U

namespace Go.Proofs.Ytggodagdfldndaa
end Go.Proofs.Ytggodagdfldndaa

namespace Go.Proofs.Ytggodagdfldndaa
open Go.RowKit Go.Proofs.YtggodagdfldndaaW.PrintWords Go.Proofs.YtggodagdfldndaaW.PrintLast
theorem at_drop (s : ByteArray) (p : Nat) (c : UInt8) (l : Bs) (h : (toBs s).drop p = c :: l) : p < s.size ∧ bt s p = (c.toNat : Int) ∧ s.extract p (p + 1) = ofBs [c] ∧ (toBs s).drop (p + 1) = l := by
  have hp : p < s.size := by
    rw [← size_toBs]
    by_cases hlt : p < (toBs s).length
    · exact hlt
    · rw [List.drop_eq_nil_of_le (by omega)] at h
      cases h
  rw [drop_toBs s p hp] at h
  injection h with h1 h2
  refine ⟨hp, by rw [bt_at s p hp, h1], ?_, h2⟩
  apply eq_ofBs
  rw [toBs_extract, take_drop_snoc s p p hp (Nat.le_refl _), List.drop_take, Nat.sub_self, List.take_zero, List.nil_append, h1]
theorem at_end (s : ByteArray) (p : Nat) (hp : p ≤ s.size) (h : (toBs s).drop p = []) : p = s.size := by
  have := List.drop_eq_nil_iff.1 h
  rw [size_toBs] at this
  omega
theorem good_ne {d : Int} (h : goodI d = true) : d ≠ 34 ∧ d ≠ 13 ∧ d ≠ 10 := by
  unfold goodI at h
  simp only [Bool.and_eq_true, bne_iff_ne, ne_eq] at h
  exact h
theorem c34 (c : UInt8) : ((c.toNat : Int) = 34) ↔ c = 34 := by
  constructor
  · intro h
    apply UInt8.toNat_inj.1
    have : c.toNat = 34 := by omega
    rw [this]; rfl
  · rintro rfl; rfl
theorem c13 (c : UInt8) : ((c.toNat : Int) = 13) ↔ c = 13 := by
  constructor
  · intro h
    apply UInt8.toNat_inj.1
    have : c.toNat = 13 := by omega
    rw [this]; rfl
  · rintro rfl; rfl
/-- One round of the loop, where the limits do not stop it. -/
theorem ref_round (s : ByteArray) (d : Int) (k p : Nat) (r : Rd) (hp : p < s.size) (hk : s.size - p < k) (ht : ¬((p : Int) = r.bg ∧ r.st = 0 ∧ (128 ≤ r.row.length ∨ 2048 ≤ r.done.length))) (x : Rd) (n : Nat) (ho : oneR s p d r = (x, n)) :
    ∃ k', k = k' + 1 ∧ refLoop s d k p r = if x.err ≠ 0 then .inl (x.pl, x.err) else refLoop s d k' (p + n) x := by
  obtain ⟨k', rfl⟩ : ∃ k', k = k' + 1 := ⟨k - 1, by omega⟩
  refine ⟨k', rfl, ?_⟩
  rw [refLoop, if_pos hp, if_neg ht, ho]
/-- Where a field ends: the state behind it. -/
def Ends (s : ByteArray) (d : Int) (res : (Int × Int) ⊕ Rd) (done : List (List ByteArray)) (row : List ByteArray) (bg pl : Int) (c : Bs) (kind p : Nat) : Prop :=
  (kind = 3 ∧ p = s.size ∧ ∃ st, st ≠ 2 ∧ res = .inr ⟨done, row, ofBs c, st, bg, 0, pl⟩) ∨
  (kind = 1 ∧ p ≤ s.size ∧ ∃ k, s.size - p < k ∧ res = refLoop s d k p ⟨done, row ++ [ofBs c], ⟨#[]⟩, 0, (p : Int), 0, pl⟩) ∨
  (kind = 2 ∧ p ≤ s.size ∧ ∃ k, s.size - p < k ∧ res = refLoop s d k p ⟨done ++ [row ++ [ofBs c]], [], ⟨#[]⟩, 0, (p : Int), 0, pl⟩)
theorem ref_end (s : ByteArray) (d : Int) (hg : goodI d = true) (done : List (List ByteArray)) (row : List ByteArray) (bg pl : Int) (l : Bs) (p k : Nat) (x : Bs) (st : Int) (hl : (toBs s).drop p = l) (hp : p ≤ s.size) (hk : s.size - p < k)
    (h2 : st ≠ 2) (h3 : st = 3 → l.head? ≠ some 34) (h0 : st = 0 → row.length < 128 ∧ done.length < 2048) (he : (endR l d).1 ≠ 0) :
    Ends s d (refLoop s d k p ⟨done, row, ofBs x, st, bg, 0, pl⟩) done row bg pl x (endR l d).1 (p + (endR l d).2) := by
  cases l with
  | nil =>
    have hpe := at_end s p hp hl
    left
    refine ⟨rfl, by simp [endR, hpe], st, h2, ?_⟩
    obtain ⟨k', rfl⟩ : ∃ k', k = k' + 1 := ⟨k - 1, by omega⟩
    rw [refLoop, if_neg (by omega)]
  | cons c r =>
    obtain ⟨hps, hb, hx, hdr⟩ := at_drop s p c r hl
    have ht : ¬((p : Int) = (⟨done, row, ofBs x, st, bg, 0, pl⟩ : Rd).bg ∧ (⟨done, row, ofBs x, st, bg, 0, pl⟩ : Rd).st = 0 ∧ (128 ≤ (⟨done, row, ofBs x, st, bg, 0, pl⟩ : Rd).row.length ∨ 2048 ≤ (⟨done, row, ofBs x, st, bg, 0, pl⟩ : Rd).done.length)) := by
      rintro ⟨_, h, h'⟩
      have := h0 h
      rcases h' with h' | h'
      · exact absurd h' (by show ¬128 ≤ row.length; omega)
      · exact absurd h' (by show ¬2048 ≤ done.length; omega)
    have hq : ¬(st = 3 ∧ bt s p = 34) := by
      rintro ⟨h, h'⟩
      apply h3 h
      rw [hb, c34] at h'
      rw [h']; rfl
    by_cases hd : (c.toNat : Int) = d
    · have e1 : endR (c :: r) d = (1, 1) := by simp only [endR]; rw [if_pos hd]
      rw [e1]
      right; left
      have ho : oneR s p d ⟨done, row, ofBs x, st, bg, 0, pl⟩ = (⟨done, row ++ [ofBs x], ⟨#[]⟩, 0, (p : Int) + 1, 0, pl⟩, 1) := by
        unfold oneR
        rw [if_neg h2, if_neg hq, if_pos (by rw [hb]; exact hd)]
        rfl
      obtain ⟨k', hk', hl'⟩ := ref_round s d k p _ hps hk ht _ _ ho
      refine ⟨rfl, hps, k', by omega, ?_⟩
      rw [hl', if_neg (fun h => h rfl)]
      rfl
    · by_cases hn : breakR (c :: r) = 0
      · exfalso
        apply he
        simp only [endR]
        rw [if_neg hd, if_pos hn]
      · have e1 : endR (c :: r) d = (2, breakR (c :: r)) := by simp only [endR]; rw [if_neg hd, if_neg hn]
        rw [e1]
        right; right
        have ho : oneR s p d ⟨done, row, ofBs x, st, bg, 0, pl⟩ = (⟨done ++ [row ++ [ofBs x]], [], ⟨#[]⟩, 0, (p : Int) + ((breakR (c :: r) : Nat) : Int), 0, pl⟩, breakR (c :: r)) := by
          unfold oneR
          rw [if_neg h2, if_neg hq, if_neg (by rw [hb]; exact hd), hl, if_pos (by omega)]
          rfl
        obtain ⟨k', hk', hl'⟩ := ref_round s d k p _ hps hk ht _ _ ho
        have hle := (breakR_le (c :: r)).1
        have hlen : (c :: r).length = s.size - p := by rw [← hl, List.length_drop, size_toBs]
        refine ⟨rfl, by show p + breakR (c :: r) ≤ s.size; omega, k', by show s.size - (p + breakR (c :: r)) < k'; omega, ?_⟩
        rw [hl', if_neg (fun h => h rfl)]
        show refLoop s d k' (p + breakR (c :: r)) _ = refLoop s d k' (p + breakR (c :: r)) _
        rw [show ((p : Int) + ((breakR (c :: r) : Nat) : Int)) = ((p + breakR (c :: r) : Nat) : Int) from by omega]
/-- A field without a quote at its beginning. -/
theorem ref_plain (s : ByteArray) (d : Int) (hg : goodI d = true) (done : List (List ByteArray)) (row : List ByteArray) (bg pl : Int) : ∀ (l : Bs) (p k : Nat) (x : Bs) (st : Int), (toBs s).drop p = l → p ≤ s.size → s.size - p < k →
    (st = 1 ∨ (st = 0 ∧ l.head? ≠ some 34 ∧ row.length < 128 ∧ done.length < 2048)) →
    ((plainF d l).2.2.2 ≠ 0 ∧ refLoop s d k p ⟨done, row, ofBs x, st, bg, 0, pl⟩ = .inl (((p + (plainF d l).2.1 : Nat) : Int), ((plainF d l).2.2.2 : Int))) ∨
    ((plainF d l).2.2.2 = 0 ∧ Ends s d (refLoop s d k p ⟨done, row, ofBs x, st, bg, 0, pl⟩) done row bg pl (x ++ (plainF d l).1) (plainF d l).2.2.1 (p + (plainF d l).2.1)) := by
  intro l
  induction l with
  | nil =>
    intro p k x st hl hp hk hst
    right
    refine ⟨rfl, ?_⟩
    have h := ref_end s d hg done row bg pl [] p k x st hl hp hk (by omega) (fun _ => by simp) (fun h => by omega) (by simp [endR])
    simpa [plainF, endR] using h
  | cons c r ih =>
    intro p k x st hl hp hk hst
    by_cases he : (endR (c :: r) d).1 = 0
    · obtain ⟨hps, hb, hx, hdr⟩ := at_drop s p c r hl
      have hd : (c.toNat : Int) ≠ d := by
        intro h
        simp only [endR] at he
        rw [if_pos h] at he
        cases he
      have hn : breakR (c :: r) = 0 := by
        simp only [endR] at he
        rw [if_neg hd] at he
        by_cases hn : breakR (c :: r) = 0
        · exact hn
        · rw [if_neg hn] at he; cases he
      have h2 : st ≠ 2 := by omega
      have h3 : st ≠ 3 := by omega
      have ht : ¬((p : Int) = (⟨done, row, ofBs x, st, bg, 0, pl⟩ : Rd).bg ∧ (⟨done, row, ofBs x, st, bg, 0, pl⟩ : Rd).st = 0 ∧ (128 ≤ (⟨done, row, ofBs x, st, bg, 0, pl⟩ : Rd).row.length ∨ 2048 ≤ (⟨done, row, ofBs x, st, bg, 0, pl⟩ : Rd).done.length)) := by
        rintro ⟨_, h, h'⟩
        have h1 : st = 0 := h
        have h4 : 128 ≤ row.length ∨ 2048 ≤ done.length := h'
        omega
      have ho0 : oneR s p d ⟨done, row, ofBs x, st, bg, 0, pl⟩ = if bt s p = 34 ∧ st = 0 then ({ (⟨done, row, ofBs x, st, bg, 0, pl⟩ : Rd) with st := 2 }, 1) else if bt s p = 34 then (badR p 3, 1) else if bt s p = 13 then (badR p 6, 1) else (⟨done, row, ofBs x ++ s.extract p (p + 1), 1, bg, 0, pl⟩, 1) := by
        unfold oneR
        rw [if_neg h2, if_neg (fun h => h3 h.1), if_neg (by rw [hb]; exact hd), hl, if_neg (by omega), if_neg h3]
      by_cases hc34 : c = 34
      · have hst1 : st = 1 := by
          rcases hst with h | ⟨_, h, _⟩
          · exact h
          · rw [hc34] at h; exact absurd rfl h
        have ho : oneR s p d ⟨done, row, ofBs x, st, bg, 0, pl⟩ = (badR p 3, 1) := by
          rw [ho0, if_neg (by rintro ⟨_, h⟩; omega), if_pos (by rw [hb]; exact (c34 c).2 hc34)]
        obtain ⟨k', hk', hl'⟩ := ref_round s d k p _ hps hk ht _ _ ho
        left
        have e1 : plainF d (c :: r) = ([], 0, 0, 3) := by rw [plainF, if_pos he, if_pos hc34]
        rw [e1]
        refine ⟨by decide, ?_⟩
        rw [hl', if_pos (by show (3 : Int) ≠ 0; decide)]
        rfl
      · have hb34 : bt s p ≠ 34 := by rw [hb]; exact fun h => hc34 ((c34 c).1 h)
        by_cases hc13 : c = 13
        · have ho : oneR s p d ⟨done, row, ofBs x, st, bg, 0, pl⟩ = (badR p 6, 1) := by
            rw [ho0, if_neg (fun h => hb34 h.1), if_neg hb34, if_pos (by rw [hb]; exact (c13 c).2 hc13)]
          obtain ⟨k', hk', hl'⟩ := ref_round s d k p _ hps hk ht _ _ ho
          left
          have e1 : plainF d (c :: r) = ([], 0, 0, 6) := by rw [plainF, if_pos he, if_neg hc34, if_pos hc13]
          rw [e1]
          refine ⟨by decide, ?_⟩
          rw [hl', if_pos (by show (6 : Int) ≠ 0; decide)]
          rfl
        · have ho : oneR s p d ⟨done, row, ofBs x, st, bg, 0, pl⟩ = (⟨done, row, ofBs (x ++ [c]), 1, bg, 0, pl⟩, 1) := by
            rw [ho0, if_neg (fun h => hb34 h.1), if_neg hb34, if_neg (by rw [hb]; exact fun h => hc13 ((c13 c).1 h)), hx, ← ofBs_append]
          obtain ⟨k', hk', hl'⟩ := ref_round s d k p _ hps hk ht _ _ ho
          rw [if_neg (fun h => h rfl)] at hl'
          have h := ih (p + 1) k' (x ++ [c]) 1 hdr (by omega) (by omega) (Or.inl rfl)
          rw [hl']
          rcases h with ⟨a1, a2⟩ | ⟨a1, a2⟩
          · left
            have e1 : plainF d (c :: r) = ([], (plainF d r).2.1 + 1, 0, (plainF d r).2.2.2) := by rw [plainF, if_pos he, if_neg hc34, if_neg hc13, if_neg a1]
            rw [e1]
            refine ⟨a1, ?_⟩
            rw [a2]
            show Sum.inl (((p + 1 + (plainF d r).2.1 : Nat) : Int), _) = Sum.inl (((p + ((plainF d r).2.1 + 1) : Nat) : Int), _)
            rw [show p + 1 + (plainF d r).2.1 = p + ((plainF d r).2.1 + 1) from by omega]
          · right
            have e1 : plainF d (c :: r) = (c :: (plainF d r).1, (plainF d r).2.1 + 1, (plainF d r).2.2.1, 0) := by rw [plainF, if_pos he, if_neg hc34, if_neg hc13, if_pos a1]
            rw [e1]
            refine ⟨rfl, ?_⟩
            show Ends s d _ done row bg pl (x ++ (c :: (plainF d r).1)) (plainF d r).2.2.1 (p + ((plainF d r).2.1 + 1))
            rw [show x ++ (c :: (plainF d r).1) = (x ++ [c]) ++ (plainF d r).1 from by simp, show p + ((plainF d r).2.1 + 1) = p + 1 + (plainF d r).2.1 from by omega]
            exact a2
    · right
      have e1 : plainF d (c :: r) = ([], (endR (c :: r) d).2, (endR (c :: r) d).1, 0) := by rw [plainF, if_neg he]
      rw [e1]
      refine ⟨rfl, ?_⟩
      have h := ref_end s d hg done row bg pl (c :: r) p k x st hl hp hk (by omega) (fun h => by omega) (fun h => by omega) he
      simpa using h
/-- What stands in quotes, behind the first. -/
theorem ref_scan (s : ByteArray) (d : Int) (done : List (List ByteArray)) (row : List ByteArray) (bg pl : Int) : ∀ (q : Nat) (l : Bs) (p k : Nat) (x : Bs), l.length ≤ q → (toBs s).drop p = l → p ≤ s.size → s.size - p < k →
    match scan l with
    | none => ∃ y, refLoop s d k p ⟨done, row, ofBs x, 2, bg, 0, pl⟩ = .inr ⟨done, row, y, 2, bg, 0, pl⟩
    | some (c, n) => p + n ≤ s.size ∧ ∃ k', s.size - (p + n) < k' ∧ ((toBs s).drop (p + n)).head? ≠ some 34 ∧ refLoop s d k p ⟨done, row, ofBs x, 2, bg, 0, pl⟩ = refLoop s d k' (p + n) ⟨done, row, ofBs (x ++ c), 3, bg, 0, pl⟩ := by
  intro q
  induction q with
  | zero =>
    intro l p k x hq hl hp hk
    have : l = [] := List.length_eq_zero_iff.1 (by omega)
    subst this
    have hpe := at_end s p hp hl
    obtain ⟨k', rfl⟩ : ∃ k', k = k' + 1 := ⟨k - 1, by omega⟩
    refine ⟨ofBs x, ?_⟩
    rw [refLoop, if_neg (by omega)]
  | succ q ih =>
    intro l p k x hq hl hp hk
    have ht : ∀ (y : ByteArray) (st : Int), st ≠ 0 → ∀ p : Nat, ¬((p : Int) = (⟨done, row, y, st, bg, 0, pl⟩ : Rd).bg ∧ (⟨done, row, y, st, bg, 0, pl⟩ : Rd).st = 0 ∧ (128 ≤ (⟨done, row, y, st, bg, 0, pl⟩ : Rd).row.length ∨ 2048 ≤ (⟨done, row, y, st, bg, 0, pl⟩ : Rd).done.length)) := fun y st h p h' => h h'.2.1
    cases l with
    | nil =>
      have hpe := at_end s p hp hl
      obtain ⟨k', rfl⟩ : ∃ k', k = k' + 1 := ⟨k - 1, by omega⟩
      refine ⟨ofBs x, ?_⟩
      rw [refLoop, if_neg (by omega)]
    | cons c r =>
      obtain ⟨hps, hb, hx, hdr⟩ := at_drop s p c r hl
      by_cases hc : c = 34
      · have ho : oneR s p d ⟨done, row, ofBs x, 2, bg, 0, pl⟩ = (⟨done, row, ofBs x, 3, bg, 0, pl⟩, 1) := by
          unfold oneR
          rw [if_pos rfl, if_pos (by rw [hb]; exact (c34 c).2 hc)]
        obtain ⟨k1, hk1, hl1⟩ := ref_round s d k p _ hps hk (ht _ 2 (by decide) p) _ _ ho
        rw [if_neg (fun h => h rfl)] at hl1
        cases r with
        | nil =>
          have e1 : scan [c] = some ([], 1) := by rw [scan, if_pos hc]
          rw [e1]
          refine ⟨by omega, k1, by omega, by rw [hdr]; simp, ?_⟩
          rw [hl1, List.append_nil]
        | cons c2 r2 =>
          by_cases hc2 : c2 = 34
          · obtain ⟨hps2, hb2, hx2, hdr2⟩ := at_drop s (p + 1) c2 r2 hdr
            have ho2 : oneR s (p + 1) d ⟨done, row, ofBs x, 3, bg, 0, pl⟩ = (⟨done, row, ofBs (x ++ [34]), 2, bg, 0, pl⟩, 1) := by
              unfold oneR
              rw [if_neg (show ¬(3 : Int) = 2 by decide), if_pos ⟨rfl, by rw [hb2]; exact (c34 c2).2 hc2⟩, ofBs_append]
              rfl
            obtain ⟨k2, hk2, hl2⟩ := ref_round s d k1 (p + 1) _ hps2 (by omega) (ht _ 3 (by decide) (p + 1)) _ _ ho2
            rw [if_neg (fun h => h rfl)] at hl2
            have h := ih r2 (p + 1 + 1) k2 (x ++ [34]) (by simp at hq; omega) hdr2 (by omega) (by omega)
            have e1 : scan (c :: c2 :: r2) = (scan r2).map (fun p => (34 :: p.1, p.2 + 2)) := by rw [scan, if_pos hc, if_pos hc2]
            rw [e1]
            cases hs : scan r2 with
            | none =>
              rw [hs] at h
              obtain ⟨y, hy⟩ := h
              exact ⟨y, by rw [hl1, hl2, hy]⟩
            | some v =>
              obtain ⟨v1, v2⟩ := v
              rw [hs] at h
              obtain ⟨a1, k', a2, a3, a4⟩ := h
              show p + (v2 + 2) ≤ s.size ∧ ∃ k', s.size - (p + (v2 + 2)) < k' ∧ ((toBs s).drop (p + (v2 + 2))).head? ≠ some 34 ∧ refLoop s d k p ⟨done, row, ofBs x, 2, bg, 0, pl⟩ = refLoop s d k' (p + (v2 + 2)) ⟨done, row, ofBs (x ++ (34 :: v1)), 3, bg, 0, pl⟩
              rw [show p + (v2 + 2) = p + 1 + 1 + v2 from by omega, show x ++ ((34 : UInt8) :: v1) = (x ++ [34]) ++ v1 from by simp]
              exact ⟨a1, k', a2, a3, by rw [hl1, hl2, a4]⟩
          · have e1 : scan (c :: c2 :: r2) = some ([], 1) := by rw [scan, if_pos hc, if_neg hc2]
            rw [e1]
            refine ⟨by omega, k1, by omega, by rw [hdr]; simpa using hc2, ?_⟩
            rw [hl1, List.append_nil]
      · have ho : oneR s p d ⟨done, row, ofBs x, 2, bg, 0, pl⟩ = (⟨done, row, ofBs (x ++ [c]), 2, bg, 0, pl⟩, 1) := by
          unfold oneR
          rw [if_pos rfl, if_neg (by rw [hb]; exact fun h => hc ((c34 c).1 h)), hx, ← ofBs_append]
        obtain ⟨k1, hk1, hl1⟩ := ref_round s d k p _ hps hk (ht _ 2 (by decide) p) _ _ ho
        rw [if_neg (fun h => h rfl)] at hl1
        have h := ih r (p + 1) k1 (x ++ [c]) (by simp at hq; omega) hdr (by omega) (by omega)
        have e1 : scan (c :: r) = (scan r).map (fun p => (c :: p.1, p.2 + 1)) := by
          cases r with
          | nil => simp [scan, hc]
          | cons c2 r2 => rw [scan, if_neg hc]
        rw [e1]
        cases hs : scan r with
        | none =>
          rw [hs] at h
          obtain ⟨y, hy⟩ := h
          exact ⟨y, by rw [hl1, hy]⟩
        | some v =>
          obtain ⟨v1, v2⟩ := v
          rw [hs] at h
          obtain ⟨a1, k', a2, a3, a4⟩ := h
          show p + (v2 + 1) ≤ s.size ∧ ∃ k', s.size - (p + (v2 + 1)) < k' ∧ ((toBs s).drop (p + (v2 + 1))).head? ≠ some 34 ∧ refLoop s d k p ⟨done, row, ofBs x, 2, bg, 0, pl⟩ = refLoop s d k' (p + (v2 + 1)) ⟨done, row, ofBs (x ++ (c :: v1)), 3, bg, 0, pl⟩
          rw [show p + (v2 + 1) = p + 1 + v2 from by omega, show x ++ (c :: v1) = (x ++ [c]) ++ v1 from by simp]
          exact ⟨a1, k', a2, a3, by rw [hl1, a4]⟩
/-- A field, from its beginning. -/
theorem ref_field (s : ByteArray) (d : Int) (hg : goodI d = true) (done : List (List ByteArray)) (row : List ByteArray) (pl : Int) (a k : Nat) (ha : a < s.size) (hk : s.size - a < k) (hrow : row.length < 128) (hdone : done.length < 2048) (F : Bs × Nat × Nat × Nat) (hF : fieldR d ((toBs s).drop a) = F) :
    (F.2.2.2 ≠ 0 ∧ refFin s (refLoop s d k a ⟨done, row, ⟨#[]⟩, 0, (a : Int), 0, pl⟩) = ([], ((a + F.2.1 : Nat) : Int), (F.2.2.2 : Int))) ∨
    (F.2.2.2 = 0 ∧ Ends s d (refLoop s d k a ⟨done, row, ⟨#[]⟩, 0, (a : Int), 0, pl⟩) done row (a : Int) pl F.1 F.2.2.1 (a + F.2.1)) := by
  obtain ⟨c, r, hl⟩ : ∃ c r, (toBs s).drop a = c :: r := ⟨_, _, drop_toBs s a ha⟩
  rw [hl] at hF
  by_cases hc : c = 34
  · -- in quotes
    obtain ⟨hps, hb, hx, hdr⟩ := at_drop s a c r hl
    have ht : ¬((a : Int) = (⟨done, row, (⟨#[]⟩ : ByteArray), 0, (a : Int), 0, pl⟩ : Rd).bg ∧ (⟨done, row, (⟨#[]⟩ : ByteArray), 0, (a : Int), 0, pl⟩ : Rd).st = 0 ∧ (128 ≤ (⟨done, row, (⟨#[]⟩ : ByteArray), 0, (a : Int), 0, pl⟩ : Rd).row.length ∨ 2048 ≤ (⟨done, row, (⟨#[]⟩ : ByteArray), 0, (a : Int), 0, pl⟩ : Rd).done.length)) := by
      rintro ⟨_, _, h'⟩
      have h4 : 128 ≤ row.length ∨ 2048 ≤ done.length := h'
      omega
    have hgd := good_ne hg
    have hbq : bt s a = 34 := by rw [hb]; exact (c34 c).2 hc
    have hbr : breakR (c :: r) = 0 := by
      subst hc
      cases r with
      | nil => rfl
      | cons c2 r2 => rfl
    have ho : oneR s a d ⟨done, row, ⟨#[]⟩, 0, (a : Int), 0, pl⟩ = (⟨done, row, ⟨#[]⟩, 2, (a : Int), 0, pl⟩, 1) := by
      unfold oneR
      rw [if_neg (show ¬(0 : Int) = 2 by decide), if_neg (fun h => absurd h.1 (show ¬(0 : Int) = 3 by decide)), if_neg (by rw [hbq]; exact fun h => hgd.1 h.symm), hl, if_neg (by omega), if_neg (show ¬(0 : Int) = 3 by decide), if_pos ⟨hbq, rfl⟩]
    obtain ⟨k1, hk1, hl1⟩ := ref_round s d k a _ hps hk ht _ _ ho
    rw [if_neg (fun h => h rfl)] at hl1
    have h := ref_scan s d done row (a : Int) pl r.length r (a + 1) k1 [] (Nat.le_refl _) hdr (by omega) (by omega)
    rw [hl1]
    have hF1 : fieldR d (c :: r) = quotedF d (c :: r) := by unfold fieldR; rw [if_pos (by rw [hc]; rfl)]
    rw [hF1] at hF
    cases hs : scan r with
    | none =>
      rw [hs] at h
      obtain ⟨y, hy⟩ := h
      have e1 : getq (c :: r) = ([], 0, 4) := by rw [getq, if_pos hc, hs]
      have e2 : quotedF d (c :: r) = ([], 0, 0, 4) := by unfold quotedF; rw [e1]; rfl
      rw [e2] at hF
      subst hF
      left
      refine ⟨by decide, ?_⟩
      have hy2 : refLoop s d k1 (a + 1) ⟨done, row, ⟨#[]⟩, 2, (a : Int), 0, pl⟩ = .inr ⟨done, row, y, 2, (a : Int), 0, pl⟩ := hy
      rw [hy2]
      rfl
    | some v =>
      obtain ⟨v1, v2⟩ := v
      rw [hs] at h
      obtain ⟨a1, k', a2, a3, a4⟩ := h
      rw [List.nil_append] at a4
      have a4 : refLoop s d k1 (a + 1) ⟨done, row, ⟨#[]⟩, 2, (a : Int), 0, pl⟩ = refLoop s d k' (a + 1 + v2) ⟨done, row, ofBs v1, 3, (a : Int), 0, pl⟩ := a4
      rw [a4]
      have e1 : getq (c :: r) = (v1, v2 + 1, 0) := by rw [getq, if_pos hc, hs]
      have e3 : (c :: r).drop (v2 + 1) = (toBs s).drop (a + 1 + v2) := by
        rw [← hl, List.drop_drop]
        congr 1
        omega
      generalize hl2 : (toBs s).drop (a + 1 + v2) = l2 at a3 e3
      by_cases he : (endR l2 d).1 = 0
      · have e2 : quotedF d (c :: r) = ([], v2 + 1, 0, 5) := by unfold quotedF; rw [e1]; dsimp only; rw [if_pos rfl, e3, if_pos he]
        rw [e2] at hF
        subst hF
        left
        refine ⟨show (5 : Nat) ≠ 0 by decide, ?_⟩
        cases l2 with
        | nil => simp [endR] at he
        | cons c2 r2 =>
          obtain ⟨hps2, hb2, hx2, hdr2⟩ := at_drop s (a + 1 + v2) c2 r2 hl2
          have hd : (c2.toNat : Int) ≠ d := by
            intro h
            simp only [endR] at he
            rw [if_pos h] at he
            cases he
          have hn : breakR (c2 :: r2) = 0 := by
            simp only [endR] at he
            rw [if_neg hd] at he
            by_cases hn : breakR (c2 :: r2) = 0
            · exact hn
            · rw [if_neg hn] at he; cases he
          have hq : bt s (a + 1 + v2 : Nat) ≠ 34 := by
            rw [hb2]
            intro h
            apply a3
            rw [(c34 c2).1 h]; rfl
          have ho2 : oneR s (a + 1 + v2) d ⟨done, row, ofBs v1, 3, (a : Int), 0, pl⟩ = (badR ((a + 1 + v2 : Nat) : Int) 5, 1) := by
            unfold oneR
            rw [if_neg (show ¬(3 : Int) = 2 by decide), if_neg (fun h => hq h.2), if_neg (by rw [hb2]; exact hd), hl2, if_neg (by omega), if_pos rfl]
          obtain ⟨k2, hk2, hl3⟩ := ref_round s d k' (a + 1 + v2) _ hps2 a2 (fun h => absurd h.2.1 (by show (3 : Int) ≠ 0; decide)) _ _ ho2
          rw [hl3, if_pos (by show (5 : Int) ≠ 0; decide)]
          show (([] : List (List ByteArray)), ((a + 1 + v2 : Nat) : Int), (5 : Int)) = ([], ((a + (v2 + 1) : Nat) : Int), (5 : Int))
          rw [show a + 1 + v2 = a + (v2 + 1) from by omega]
      · have e2 : quotedF d (c :: r) = (v1, v2 + 1 + (endR l2 d).2, (endR l2 d).1, 0) := by unfold quotedF; rw [e1]; dsimp only; rw [if_pos rfl, e3, if_neg he]
        rw [e2] at hF
        subst hF
        right
        refine ⟨rfl, ?_⟩
        have h := ref_end s d hg done row (a : Int) pl l2 (a + 1 + v2) k' v1 3 hl2 a1 a2 (by decide) (fun _ => a3) (fun h => absurd h (by decide)) he
        show Ends s d _ done row (a : Int) pl v1 (endR l2 d).1 (a + (v2 + 1 + (endR l2 d).2))
        rw [show a + (v2 + 1 + (endR l2 d).2) = a + 1 + v2 + (endR l2 d).2 from by omega]
        exact h
  · -- plain
    have hF1 : fieldR d (c :: r) = plainF d (c :: r) := by
      unfold fieldR
      rw [if_neg (by intro h; exact hc (Option.some.inj h))]
    rw [hF1] at hF
    have h := ref_plain s d hg done row (a : Int) pl (c :: r) a k [] 0 hl (by omega) hk (Or.inr ⟨rfl, by intro h; exact hc (Option.some.inj h), hrow, hdone⟩)
    rw [hF, List.nil_append] at h
    rcases h with ⟨h1, h2⟩ | ⟨h1, h2⟩
    · left
      refine ⟨h1, ?_⟩
      have h2 : refLoop s d k a ⟨done, row, ⟨#[]⟩, 0, (a : Int), 0, pl⟩ = _ := h2
      rw [h2]
      rfl
    · exact Or.inr ⟨h1, h2⟩
end Go.Proofs.Ytggodagdfldndaa

namespace Go.Proofs.Ytggodagdfldndaa
open Go.RowKit
def outP (l : List (List ByteArray)) (xs : List It) : List (List ByteArray) × Int × Int := match xs.find? (fun x => x.e != 0) with
  | some x => ([], (x.pl : Int), (x.e : Int))
  | none => (xs.foldl addIt l, 0, 0)
theorem outP_cons (l : List (List ByteArray)) (x : It) (xs : List It) (h : x.e = 0) : outP l (x :: xs) = outP (addIt l x) xs := by
  unfold outP
  rw [List.find?_cons_of_neg (by rw [h]; decide)]
  rfl
theorem outP_stop (l : List (List ByteArray)) (x : It) (xs : List It) (h : x.e ≠ 0) : outP l (x :: xs) = ([], (x.pl : Int), (x.e : Int)) := by
  unfold outP
  rw [List.find?_cons_of_pos (by simpa using h)]
theorem addIt_row (done : List (List ByteArray)) (row : List ByteArray) (x : It) (hx : x.m = done.length) : addIt (if row.length = 0 then done else done ++ [row]) x = done ++ [row ++ [x.c]] := by
  show addP _ (x.m, x.c) = _
  by_cases h : row.length = 0
  · rw [if_pos h]
    have : row = [] := List.length_eq_zero_iff.1 h
    subst this
    unfold addP
    rw [if_pos hx]
    rfl
  · rw [if_neg h, hx, addP_next]
theorem field_short (d : Int) (l : Bs) (h : (fieldR d l).2.2.2 = 0) : (fieldR d l).1.length ≤ l.length := by
  obtain ⟨t, rest, e1, e2, _⟩ := fieldR_ok d l h
  have e3 := congrArg List.length e1
  rw [List.length_append] at e3
  rcases e2 with e2 | e2
  · rw [e2] at e3; omega
  · have : (quoted (fieldR d l).1).length ≥ (fieldR d l).1.length := by
      unfold quoted
      have := le_twice_length (fieldR d l).1
      simp
      omega
    rw [e2] at e3
    omega
theorem ref_stop (s : ByteArray) (d : Int) (k : Nat) (r : Rd) : refLoop s d (k + 1) s.size r = .inr r := by
  rw [refLoop, if_neg (Nat.lt_irrefl _)]
theorem fin_inr (s : ByteArray) (done : List (List ByteArray)) (row : List ByteArray) (cell : ByteArray) (st bg err pl : Int) : refFin s (.inr ⟨done, row, cell, st, bg, err, pl⟩) = if st = 2 then ([], bg, 4) else if bg = s.size ∧ row.length = 0 then (done, 0, 0) else if bg = s.size ∧ 128 ≤ row.length then ([], s.size, 7) else (done ++ [row ++ [cell]], 0, 0) := rfl
theorem ref_its (s : ByteArray) (d : Int) (hs : s.size ≤ 3000) (hg : goodI d = true) (pl : Int) : ∀ (kf a n m : Nat) (done : List (List ByteArray)) (row : List ByteArray) (k : Nat), row.length = n → done.length = m → (0 < n → m < 2048) → a ≤ s.size → s.size - a < k → (s.size + 1 ≤ a + kf ∨ (a = s.size ∧ n = 0)) →
    refFin s (refLoop s d k a ⟨done, row, ⟨#[]⟩, 0, (a : Int), 0, pl⟩) = outP (if row.length = 0 then done else done ++ [row]) (itsF (toBs s) d kf a n m) := by
  have hlen : (toBs s).length = s.size := size_toBs s
  intro kf
  induction kf with
  | zero =>
    intro a n m done row k hn hm h0 ha hk hf
    obtain ⟨rfl, rfl⟩ : a = s.size ∧ n = 0 := by omega
    obtain ⟨k', rfl⟩ : ∃ k', k = k' + 1 := ⟨k - 1, by omega⟩
    rw [ref_stop, fin_inr, if_neg (show ¬(0 : Int) = 2 by decide), if_pos ⟨rfl, hn⟩, if_pos hn]
    rfl
  | succ kf ih =>
    intro a n m done row k hn hm h0 ha hk hf
    by_cases hgo : a < s.size ∨ 0 < n
    · have hits : itsF (toBs s) d (kf + 1) a n m = if (lookR (toBs s) d a n m).1.e = 0 then (if (lookR (toBs s) d a n m).1.kind = 1 then (lookR (toBs s) d a n m).1 :: itsF (toBs s) d kf (lookR (toBs s) d a n m).2 (n + 1) m else (lookR (toBs s) d a n m).1 :: itsF (toBs s) d kf (lookR (toBs s) d a n m).2 0 (m + 1)) else [(lookR (toBs s) d a n m).1] := by
        rw [itsF, if_pos (by rw [hlen]; exact hgo)]
      rw [hits]
      by_cases hbig : 128 ≤ n ∨ 2048 ≤ m
      · have hlook : lookR (toBs s) d a n m = (⟨m, ByteArray.empty, 0, a, 7⟩, a) := by unfold lookR; rw [if_pos hbig]
        rw [hlook]
        dsimp only
        rw [if_neg (show ¬(7 : Nat) = 0 by decide), outP_stop _ _ _ (show (7 : Nat) ≠ 0 by decide)]
        by_cases hlt : a < s.size
        · obtain ⟨k', rfl⟩ : ∃ k', k = k' + 1 := ⟨k - 1, by omega⟩
          rw [refLoop, if_pos hlt, if_pos ⟨rfl, rfl, by show 128 ≤ row.length ∨ 2048 ≤ done.length; omega⟩]
          rfl
        · have hae : a = s.size := by omega
          subst hae
          obtain ⟨k', rfl⟩ : ∃ k', k = k' + 1 := ⟨k - 1, by omega⟩
          rw [ref_stop, fin_inr, if_neg (show ¬(0 : Int) = 2 by decide), if_neg (by rintro ⟨_, h⟩; omega), if_pos ⟨rfl, by omega⟩]
          rfl
      · have hlook : ∀ F, fieldR d ((toBs s).drop a) = F → F.1.length ≤ 3000 ∨ F.2.2.2 ≠ 0 → lookR (toBs s) d a n m = if F.2.2.2 = 0 then (⟨m, ofBs F.1, F.2.2.1, a, 0⟩, a + F.2.1) else (⟨m, ByteArray.empty, 0, a + F.2.1, F.2.2.2⟩, a) := by
          intro F hF hl
          unfold lookR
          rw [if_neg hbig, hF]
          by_cases hz : F.2.2.2 = 0
          · rw [if_pos hz, if_pos hz, if_neg (by omega)]
          · rw [if_neg hz, if_neg hz]
        by_cases hlt : a < s.size
        · obtain ⟨F, hF⟩ : ∃ F, fieldR d ((toBs s).drop a) = F := ⟨_, rfl⟩
          have hfs := field_step d ((toBs s).drop a)
          have hsh := field_short d ((toBs s).drop a)
          rw [hF, List.length_drop, hlen] at hfs hsh
          have hl := hlook F hF (by by_cases hz : F.2.2.2 = 0; exact Or.inl (by have := hsh hz; omega); exact Or.inr hz)
          rw [hl]
          rcases ref_field s d hg done row pl a k hlt hk (by omega) (by omega) F hF with ⟨h1, h2⟩ | ⟨h1, h2⟩
          · rw [if_neg h1]
            dsimp only
            rw [if_neg h1, h2, outP_stop _ _ _ h1]
          · rw [if_pos h1]
            dsimp only
            rw [if_pos rfl]
            obtain ⟨g1, g2⟩ := hfs h1
            have hadd := addIt_row done row ⟨m, ofBs F.1, F.2.2.1, a, 0⟩ hm.symm
            rcases h2 with ⟨e1, e2, st, e3, e4⟩ | ⟨e1, e2, k', e3, e4⟩ | ⟨e1, e2, k', e3, e4⟩
            · rw [if_neg (show ¬F.2.2.1 = 1 by rw [e1]; decide), outP_cons _ _ _ rfl, hadd, e2, ← hlen, itsF_end, e4]
              rw [fin_inr, if_neg e3, if_neg (by rintro ⟨h, _⟩; omega), if_neg (by rintro ⟨h, _⟩; omega)]
              rfl
            · rw [if_pos e1, outP_cons _ _ _ rfl, hadd, e4]
              have := ih (a + F.2.1) (n + 1) m done (row ++ [ofBs F.1]) k' (by simp; omega) hm (by omega) e2 e3 (by omega)
              rw [this, if_neg (by simp)]
            · rw [if_neg (show ¬F.2.2.1 = 1 by rw [e1]; decide), outP_cons _ _ _ rfl, hadd, e4]
              have := ih (a + F.2.1) 0 (m + 1) (done ++ [row ++ [ofBs F.1]]) [] k' rfl (by simp; omega) (by omega) e2 e3 (by omega)
              rw [this, if_pos (show ([] : List ByteArray).length = 0 from rfl)]
        · have hae : a = s.size := by omega
          have hn0 : 0 < n := by omega
          have hm0 := h0 hn0
          have hF : fieldR d ((toBs s).drop a) = ([], 0, 3, 0) := by
            rw [List.drop_eq_nil_of_le (by omega)]
            rfl
          rw [hlook _ hF (Or.inl (Nat.zero_le _)), if_pos rfl]
          dsimp only
          rw [if_pos rfl, if_neg (show ¬(3 : Nat) = 1 by decide), outP_cons _ _ _ rfl, addIt_row done row ⟨m, ofBs [], 3, a, 0⟩ hm.symm]
          subst hae
          rw [Nat.add_zero, ← hlen, itsF_end, hlen]
          obtain ⟨k', rfl⟩ : ∃ k', k = k' + 1 := ⟨k - 1, by omega⟩
          rw [ref_stop, fin_inr, if_neg (show ¬(0 : Int) = 2 by decide), if_neg (by rintro ⟨_, h⟩; omega), if_neg (by rintro ⟨_, h⟩; omega)]
          rfl
    · obtain ⟨rfl, rfl⟩ : a = s.size ∧ n = 0 := by omega
      rw [← hlen, itsF_end, hlen]
      obtain ⟨k', rfl⟩ : ∃ k', k = k' + 1 := ⟨k - 1, by omega⟩
      rw [ref_stop, fin_inr, if_neg (show ¬(0 : Int) = 2 by decide), if_pos ⟨rfl, hn⟩, if_pos hn]
      rfl
/-- WHAT THE DOCUMENT's STATE MACHINE SAYS IS WHAT THE FIELDS, ONE BY ONE, SAY. -/
theorem refParse_eq (s : ByteArray) (d : Int) (hs : s.size ≤ 3000) : refParse s d = parseF (toBs s) d := by
  unfold refParse parseF
  by_cases hg : goodI d = true
  · rw [if_pos hg, if_pos hg]
    have h := ref_its s d hs hg 0 (s.size + 2) 0 0 0 [] [] (s.size + 1) rfl rfl (by omega) (Nat.zero_le _) (by omega) (by omega)
    rw [if_pos (show ([] : List ByteArray).length = 0 from rfl)] at h
    exact h
  · rw [if_neg hg, if_neg hg]
end Go.Proofs.Ytggodagdfldndaa

namespace Go.Proofs.Ytggodagdfldndaa.Q.L
open Go.RowKit
theorem byteI0 {d : Int} (h : (Lit.int .u8 d).wf = true) : 0 ≤ d ∧ d ≤ 255 := by
  obtain ⟨c, rfl⟩ := delim_byte d h
  have := c.toNat_lt
  omega
theorem print_f (l : List (List ByteArray)) (d : Int) (crlf : Bool) (hd : (Lit.int .u8 d).wf = true) (hl : l.length ≤ 5000) : csv_Print.f l d crlf = some (printF l d crlf) := by
  obtain ⟨h1, h2⟩ := byteI0 hd
  unfold csv_Print.f
  rw [if_pos ⟨hl, h1, h2⟩]
end Go.Proofs.Ytggodagdfldndaa.Q.L

namespace Go.Proofs.Ytggodagdfldndaa.Q.L.Z
open Go.RowKit Go.Proofs.YtggodagdfldndaaW.PrintWords Go.Proofs.YtggodagdfldndaaW.PrintLast Go.Proofs.Ytggodagdfldndaa.Q.L Go.Proofs.Ytggodagdfldndaa.Q
theorem parse_f (s : ByteArray) (d : Int) (hs : s.size ≤ 1048576) : csv_Parse.f s d = some (parseF (toBs s) d) := by
  unfold csv_Parse.f; rw [if_pos hs]
theorem works03 : tartanlaw03_works.f = some true := by
  unfold tartanlaw03_works.f
  rw [parse_f _ _ (by decide), parse_f _ _ (by decide), parse_f _ _ (by decide), print_f _ _ _ (by decide) (by decide)]
  decide +kernel
theorem rd_nat (l : List (List ByteArray)) (i : Nat) (h : i < l.length) : rd_L1 l (i : Int) = l[i] := by
  unfold rd_L1
  simp [h]
/-! ### are records alike? -/
theorem row_l0 (a b : List ByteArray) (hl : a.length = b.length) (hb : a.length ≤ 1000000) : ∀ (m k i : Nat), i + m = a.length → m < k → a.take i = b.take i → tartanref03_Row.l0 k a b i = some (decide (a = b)) := by
  intro m
  induction m with
  | zero =>
    intro k i hi hk he
    obtain ⟨k, rfl⟩ : ∃ q, k = q + 1 := ⟨k - 1, by omega⟩
    simp only [tartanref03_Row.l0]
    rw [List.take_of_length_le (by omega), List.take_of_length_le (by omega)] at he
    rw [if_neg (by omega), he]; simp
  | succ m ih =>
    intro k i hi hk he
    obtain ⟨k, rfl⟩ : ∃ q, k = q + 1 := ⟨k - 1, by omega⟩
    have h1 : i < a.length := by omega
    have h2 : i < b.length := by omega
    simp only [tartanref03_Row.l0]
    rw [if_pos (by omega), if_pos (by omega), if_pos (by omega), rdOf_nat a i h1, rdOf_nat b i h2, toList_toBs, toList_toBs]
    by_cases e : a[i] = b[i]
    · rw [if_pos (by rw [e]), show wrap64 ((i : Int) + 1) = ((i + 1 : Nat) : Int) from wrap_nat i 1 (by omega)]
      refine ih k (i + 1) (by omega) (by omega) ?_
      rw [List.take_add_one, List.take_add_one, he, List.getElem?_eq_getElem h1, List.getElem?_eq_getElem h2, e]
    · rw [if_neg (fun h => e (by rw [← ofBs_toBs a[i], h, ofBs_toBs])), decide_eq_false (fun h => e (by subst h; rfl))]
theorem row_f (a b : List ByteArray) (hb : a.length ≤ 1000000) (k : Nat) (hk : a.length < k) : tartanref03_Row.f k a b = some (decide (a = b)) := by
  unfold tartanref03_Row.f
  by_cases h : a.length = b.length
  · rw [if_pos (by omega)]
    exact row_l0 a b h hb a.length k 0 (by omega) hk (by simp)
  · rw [if_neg (by omega), decide_eq_false (fun e => h (by rw [e]))]
theorem same_l0 (a b : List (List ByteArray)) (hl : a.length = b.length) (hb : a.length ≤ 1000000) (B : Nat) (hB : ∀ r ∈ a, r.length ≤ B) (hB2 : B ≤ 1000000) : ∀ (m k i : Nat), i + m = a.length → m + B + 1 < k → a.take i = b.take i → tartanref03_Same.l0 k a b i = some (decide (a = b)) := by
  intro m
  induction m with
  | zero =>
    intro k i hi hk he
    obtain ⟨k, rfl⟩ : ∃ q, k = q + 1 := ⟨k - 1, by omega⟩
    simp only [tartanref03_Same.l0]
    rw [List.take_of_length_le (by omega), List.take_of_length_le (by omega)] at he
    rw [if_neg (by omega), he]; simp
  | succ m ih =>
    intro k i hi hk he
    obtain ⟨k, rfl⟩ : ∃ q, k = q + 1 := ⟨k - 1, by omega⟩
    have h1 : i < a.length := by omega
    have h2 : i < b.length := by omega
    have h3 := hB a[i] (List.getElem_mem h1)
    simp only [tartanref03_Same.l0]
    rw [if_pos (by omega), if_pos (by omega), if_pos (by omega), rd_nat a i h1, rd_nat b i h2, row_f _ _ (by omega) k (by omega), Option.bind_some]
    by_cases e : a[i] = b[i]
    · rw [if_pos (decide_eq_true e), show wrap64 ((i : Int) + 1) = ((i + 1 : Nat) : Int) from wrap_nat i 1 (by omega)]
      refine ih k (i + 1) (by omega) (by omega) ?_
      rw [List.take_add_one, List.take_add_one, he, List.getElem?_eq_getElem h1, List.getElem?_eq_getElem h2, e]
    · rw [if_neg (by rw [decide_eq_false e]; decide), decide_eq_false (fun h => e (by subst h; rfl))]
theorem same_f (a b : List (List ByteArray)) (hb : a.length ≤ 1000000) (B : Nat) (hB : ∀ r ∈ a, r.length ≤ B) (hB2 : B ≤ 1000000) (k : Nat) (hk : a.length + B + 1 < k) : tartanref03_Same.f k a b = some (decide (a = b)) := by
  unfold tartanref03_Same.f
  by_cases h : a.length = b.length
  · rw [if_pos (by omega)]
    exact same_l0 a b h hb B hB hB2 a.length k 0 (by omega) hk (by simp)
  · rw [if_neg (by omega), decide_eq_false (fun e => h (by rw [e]))]
/-! ### are they few? -/
end Go.Proofs.Ytggodagdfldndaa.Q.L.Z

namespace Go.Proofs.Ytggodagdfldndaa.Pure
open Go.RowKit Go.Proofs.Ytggodagdfldndaa.Q Go.Proofs.Ytggodagdfldndaa.Q.L Go.Proofs.Ytggodagdfldndaa.Q.L.Z Go.Proofs.Ytggodagdfldndaa.Q.L.Z.U Go.Proofs.YtggodagdfldndaaW.PrintWords Go.Proofs.YtggodagdfldndaaW.PrintLast
theorem CsvParses : tartanlaw03_CsvParses.Pure := by
  intro a0 a1 _ _
  refine ⟨10000, ?_⟩
  unfold tartanlaw03_CsvParses.f
  rw [works03, Option.bind_some, if_pos rfl]
  by_cases hs : a0.size ≤ 3000
  · rw [if_neg (by omega), parse_f a0 a1 (by omega), Option.bind_some]
    have hr : tartanref03_Parse.f 10000 a0 a1 = some (parseF (toBs a0) a1) := by
      unfold tartanref03_Parse.f
      rw [if_pos hs, refParse_eq a0 a1 hs]
    rw [hr, Option.bind_some]
    have hb : (parseF (toBs a0) a1).1.length ≤ 2048 ∧ ∀ r ∈ (parseF (toBs a0) a1).1, r.length ≤ 128 := by
      obtain ⟨⟨L, p, e⟩, hX⟩ : ∃ X, parseF (toBs a0) a1 = X := ⟨_, rfl⟩
      rw [hX]
      by_cases he : e = 0
      · subst he
        obtain ⟨_, _, h1, h2, _⟩ := parse_valid (toBs a0) a1 L p hX
        exact ⟨h2, fun r hr => (h1 r hr).2.1⟩
      · obtain ⟨h1, _⟩ := parse_fault (toBs a0) a1 L p e hX he
        subst h1
        exact ⟨Nat.zero_le _, fun r hr => by cases hr⟩
    rw [same_f _ _ (by omega) 128 hb.2 (by omega) 10000 (by omega), Option.bind_some]
    simp
  · rw [if_pos (by omega)]
end Go.Proofs.Ytggodagdfldndaa.Pure

namespace Go.Proofs.Ytggodagdfldndaa.csvParses
open Go.ChangeShapes Go.WideShapes Go.ChangeAt Go.RowKit
open Go.ChangeMaps (open_string shut_string)
set_option linter.unusedVariables false
theorem own : ownKnob Try.prog.godebug = none := by kernel_rfl
set_option maxRecDepth 100000 in
theorem lifted (os : Os) (started : os.Started) (H : Type) (enc : TypeId × Value → H) :
    ReturnsInHanded {} Try.checked os 12 .any (Rows.csvParsesSpec.pre6 enc Try.prog Try.f12 Rows.csvParsesRow.domain false) (Rows.csvParsesSpec.post enc Try.prog Try.f12 false true false false) := by
  refine returnsInHanded_of_change_sized (C := Try.checked) own started (by kernel_rfl) Try.func12
    (ChangeSpec.witness6 (enc := enc) (C := Try.checked) false ⟨#[], #[.string ByteArray.empty, .int .u8 0], []⟩ 8 (by kernel_rfl) (by kernel_rfl) (by kernel_rfl) (by kernel_rfl)) ?_
  intro W base args ds gs before hval0 hW hcnd hsz0 _
  have hsz : (DataW.weightsEach Try.prog (Try.f12.params.toList ++ Rows.csvParsesSpec.plain.varTypes Try.prog) (ds ++ gs)).all (· ≤ reachBytes) = true := hsz0
  have hval : ∀ (j : Nat) t v, Try.f12.params[j]? = some t → args[j]? = some v → Value.okWide Try.prog W .any base t v := hval0
  have hW' := hW
  obtain ⟨p, q, hA0, hV, rfl, hfz, hnd⟩ := hW
  have hA : DataW.TrodAll enc Try.prog W 0 (fun _ => true) true Try.f12.params.toList args.toList ds p := hA0
  rw [Try.params12] at hA hval hsz
  obtain ⟨v0, vs0, d0, ds0, p0, q0, hargs, rfl, rfl, h0, r0⟩ := trodAll_cons hA
  obtain ⟨v1, vs1, d1, ds1, p1, q1, rfl, rfl, rfl, h1, r1⟩ := trodAll_cons r0
  obtain ⟨rfl, rfl, rfl⟩ := trodAll_nil r1
  obtain rfl : args = #[v0, v1] := by cases args; simp_all
  obtain ⟨rfl, rfl⟩ := trodVars_none hV
  obtain ⟨a0, rfl, rfl, rfl, y0⟩ := open_string Try.underlying9 (hval 0 9 v0 rfl rfl) h0
  have w0 : a0.size ≤ 140737488351232 := by
    have z := sized_string hsz (j := 0) (t := 9) rfl rfl
    rw [Array.length_toList] at z
    exact z
  obtain ⟨a1, rfl, rfl, rfl, w1⟩ := open_int Try.underlying5 (hval 1 5 v1 rfl rfl) h1
  clear hA0 hval0 hsz0 hsz
  refine (Q.L.Z.U.tartanlaw03_CsvParses.walk Pure.CsvParses a0 a1 W w0 w1).mono fun e W' ⟨he, bel⟩ => ?_
  subst he
  exact ⟨_, rfl, _, _, _, [], _, [], hW', trodAll_mk1 (shut_bool Try.underlying4 _), (trodAll_cons_mk (shut_string Try.underlying9 y0) (trodAll_cons_mk (shut_int Try.underlying5 w1) trodAll_mk0)), rfl, bel.frame _, fun h => by cases h⟩
theorem over : Rows.csvParsesRow.holds Try.pinned (OpenSpec.ofChange Rows.csvParsesSpec) :=
  OpenClaim.holds_of_wide 12 Try.f12 rfl rfl rfl rfl rfl rfl rfl ⟨rfl, rfl, rfl, rfl, rfl⟩ rfl rfl rfl rfl rfl (by kernel_rfl) Try.func12 (by kernel_rfl)
    (of_decide_eq_true (by kernel_rfl)) (by unfold Func.isWrapper; first | (rw [if_pos (by decide +kernel)]; kernel_rfl) | (rw [if_neg (by decide +kernel)]; exact ⟨rfl, rfl⟩))
    (fun os started H enc _ => lifted os started H enc)
theorem proved : Rows.CsvParsesSaid := over
#print axioms proved
end Go.Proofs.Ytggodagdfldndaa.csvParses
namespace Go.Proofs.Ytggodagdfldndaa
/-- The row, under a short name, for the claim. -/
theorem csvParses_holds : Rows.CsvParsesSaid := csvParses.proved
end Go.Proofs.Ytggodagdfldndaa
