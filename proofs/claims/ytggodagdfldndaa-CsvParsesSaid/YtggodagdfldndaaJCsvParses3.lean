/- Walks of Go functions of this seat against plain Lean functions, written by a program of this session (the kit's print, with hand-proved contracts for what it does not take). Lean checks them. -/
import Derived.Test.YtggodagdfldndaaJCsvParses2
import Derived.Test.YtggodagdfldndaaJCsvParses0
import Derived.Test.YtggodagdfldndaaProg
import Derived.Below
import Derived.Deep.Draws
import Derived.Deep.AppendLies
import Derived.Maps.AppendAt
import Derived.OwnWalk
import Derived.Laws.BytesArg
import Derived.Laws.MakeOwn
import Derived.Laws.OwnMore
import Derived.Deep.OwnRows
import Derived.Tactics
import Derived.Lib.ConvBytes
import Derived.Laws.Slices
import Derived.WalkKit
import Derived.KernelRfl
import Derived.RowKit3
import Derived.Deep.LoopGhost
import Derived.Deep.QuietTactic
import Derived.BigQuiet
import Derived.WideLaws
import Derived.Deep.DeepCutAuto
import Derived.Deep.CutBlock
import Derived.Deep.RegionHeld3
import Derived.Laws.Rows
import Derived.Lib.AppendStr
import Derived.ArgAppend
import Derived.Laws.IdiomCopy
import Derived.OrdersHeld
import Derived.Laws.BitsLemmas
import Derived.RowKit
import Derived.Test.YtggodagdfldndaaJCsvParses1
import Derived.OrdersIn
import Derived.TacticsIn
import Derived.RangeFuncCalls
import Derived.RangeFuncBox
set_option linter.unusedVariables false
set_option linter.unusedSimpArgs false
namespace Go.Proofs.Ytggodagdfldndaa.Q.L
open Go.RowKit Go.Shelf Go.Proofs.YtggodagdfldndaaW.PrintWords Go.Proofs.YtggodagdfldndaaW.PrintLast Go.Proofs.YtggodagdfldndaaW.PrintMore
theorem lex_record_big (c : UInt8) (l : List ByteArray) (hl : l.length ≤ 1000) (hs : Small l 5000) (k : Nat) (hk : 5000 + l.length + 1 < k) : lex_record_write.f k l (c.toNat : Int) = some (ofBs (rowR (c.toNat : Int) c (cells l))) := by
  unfold lex_record_write.f
  have hlen := rowR_length (c.toNat : Int) c 5000 (cells l) (by
    intro x hx
    obtain ⟨y, hy, rfl⟩ := List.mem_map.1 hx
    rw [size_toBs]; exact hs y hy)
  have h0 := record_l0 c l (by omega) 5000 (by omega) hs l.length k 0 (by omega) (by omega)
  rw [List.take_zero, List.map_nil, List.nil_append] at h0
  rw [if_pos (by omega), if_pos (by simp; omega), Int.toNat_natCast]
  refine Eq.trans h0 ?_
  unfold strings_Join.f
  rw [joined_ofBs, if_pos]
  refine ⟨by simp; omega, ?_⟩
  simp only [cells, List.length_map] at hlen ⊢
  have := Nat.mul_le_mul_right (2 * 5000 + 3) hl
  omega
theorem rowR_big (c : UInt8) (l : List ByteArray) (hl : l.length ≤ 1000) (hs : Small l 5000) : (rowR (c.toNat : Int) c (cells l)).length ≤ 10003000 := by
  have hlen := rowR_length (c.toNat : Int) c 5000 (cells l) (by
    intro x hx
    obtain ⟨y, hy, rfl⟩ := List.mem_map.1 hx
    rw [size_toBs]; exact hs y hy)
  simp only [cells, List.length_map] at hlen ⊢
  have := Nat.mul_le_mul_right (2 * 5000 + 3) hl
  omega
theorem lex_Write_big (c : UInt8) (l : List ByteArray) (crlf : Bool) (hl : l.length ≤ 1000) (hs : Small l 5000) (k : Nat) (hk : 5000 + l.length + 1 < k) : lex_Write.f k l (c.toNat : Int) crlf = some (ofBs (writeB c l crlf)) := by
  unfold lex_Write.f
  rw [lex_record_big c l hl hs k hk, Option.bind_some]
  have hb := rowR_big c l hl hs
  unfold writeB
  rw [ofBs_append]
  cases crlf with
  | true => rw [if_pos rfl, if_pos (by rw [size_ofBs]; omega)]; rfl
  | false => rw [if_neg (by decide), if_pos (by rw [size_ofBs]; omega)]; rfl

theorem bld_below {B b : Nat} {l : Bs} {W W' : World} (h : Bld B b l W) (hB : Below W.heap.size W W') : Bld B b l W' :=
  h.kept (row := none) ⟨hB.os, hB.tape, hB.output, hB.size, fun k hk _ => hB.block k hk⟩ (fun r e => by cases e)
def tooBig (r : List ByteArray) : Bool := decide (128 < r.length) || r.any (bigger 4096)
/-- csv.Print's loop: the error, and what was written. -/
def printLoop (c : UInt8) (crlf : Bool) : List (List ByteArray) → Int → Bs → Int × Bs
  | [], e, acc => (e, acc)
  | r :: rs, e, acc => if r.length = 0 then (1, acc) else if tooBig r = true then printLoop c crlf rs 7 acc else printLoop c crlf rs e (acc ++ writeB c r crlf)
/-- csv.Print, as_ a plain function. -/
def printF (l : List (List ByteArray)) (d : Int) (crlf : Bool) : ByteArray × Int :=
  if goodI d = true then
    (if (printLoop (UInt8.ofNat d.toNat) crlf l (if 2048 < l.length then 7 else 0) []).1 = 0 then
      (if 4194304 < (printLoop (UInt8.ofNat d.toNat) crlf l (if 2048 < l.length then 7 else 0) []).2.length then (⟨#[]⟩, 7) else (ofBs (printLoop (UInt8.ofNat d.toNat) crlf l (if 2048 < l.length then 7 else 0) []).2, 0))
     else (⟨#[]⟩, (printLoop (UInt8.ofNat d.toNat) crlf l (if 2048 < l.length then 7 else 0) []).1))
  else (⟨#[]⟩, 2)
def csv_Print.f (l0 : List (List ByteArray)) (a1 : Int) (a2 : Bool) : Option (ByteArray × Int) := if l0.length ≤ 5000 ∧ 0 ≤ a1 ∧ a1 ≤ 255 then some (printF l0 a1 a2) else none
theorem printLoop_step (c : UInt8) (crlf : Bool) (l : List (List ByteArray)) (k : Nat) (hk : k < l.length) (e : Int) (acc : Bs) (X : List ByteArray) (hX : X = l.getD k []) :
    printLoop c crlf (l.drop k) e acc = if X.length = 0 then (1, acc) else if tooBig X = true then printLoop c crlf (l.drop (k + 1)) 7 acc else printLoop c crlf (l.drop (k + 1)) e (acc ++ writeB c X crlf) := by
  have : l[k] = X := by rw [hX]; simp [hk]
  rw [List.drop_eq_getElem_cons hk, this]; rfl
set_option maxHeartbeats 4000000 in
set_option maxRecDepth 100000 in
theorem print_bad (A0 : Option Addr) (c0 : Nat) (n : Nat) (d : Int) (crlf : Bool) (w : World) (hg : goodI d = false) :
    Calls Try.prog 44 #[.slice A0 n c0, .int .u8 d, .bool crlf] w fun e w' => e = .returned (.tuple #[.string ⟨#[]⟩, .int .i64 2]) ∧ Below w.heap.size w w' := by
  have Hg := Lib.hid (show quote_Good.f d = some false by rw [quote_Good_f, hg])
  clear hg
  go_enter Try.func44, Try.ntmps44
  go_wp2
  go_step3
  go_wp2_with fail
  refine (quote_Good.calls d false _ Hg.out).mono ?_
  rintro e w' ⟨rfl, ⟨nd, rfl⟩⟩
  go_wp2
  rw [Exit.noGoto_ret]
  go_ret2
  exact ⟨rfl, pw_below_drewN (Below.refl _ w) nd⟩
theorem print_post (l : List (List ByteArray)) (d : Int) (crlf : Bool) (e : Int) (acc : Bs) (hg : goodI d = true) (h : printLoop (UInt8.ofNat d.toNat) crlf l (if 2048 < l.length then 7 else 0) [] = (e, acc)) :
    printF l d crlf = if e = 0 then (if 4194304 < acc.length then (⟨#[]⟩, 7) else (ofBs acc, 0)) else (⟨#[]⟩, e) := by
  unfold printF
  rw [if_pos hg, h]
set_option maxHeartbeats 8000000 in
set_option maxRecDepth 100000 in
theorem print_walk (A0 : Option Addr) (c0 : Nat) (l : List (List ByteArray)) (c : UInt8) (crlf : Bool) (w : World) (hr0 : Kd.C (Kd.slice 9 Kd.string) w A0 l.length l) (hc0 : l.length ≤ c0) (hl : l.length ≤ 5000) (hg : goodI (c.toNat : Int) = true) (e0 : Int) (he0 : e0 = if 2048 < l.length then 7 else 0) (FE : Int) (FA : Bs) (hF : printLoop c crlf l e0 [] = (FE, FA)) :
    Calls Try.prog 44 #[.slice A0 l.length c0, .int .u8 c.toNat, .bool crlf] w fun e w' => e = .returned (.tuple #[.string (if FE = 0 then (if 4194304 < FA.length then (⟨#[]⟩, 7) else (ofBs FA, 0)) else (⟨#[]⟩, FE) : ByteArray × Int).1, .int .i64 (if FE = 0 then (if 4194304 < FA.length then (⟨#[]⟩, 7) else (ofBs FA, 0)) else (⟨#[]⟩, FE) : ByteArray × Int).2]) ∧ Below w.heap.size w w' := by
  have HR0 := Lib.hid hr0
  have HF := Lib.hid hF
  have HC0 := Lib.hid hc0
  have Hg := Lib.hid (show quote_Good.f (c.toNat : Int) = some true by rw [quote_Good_f, hg])
  clear hg hr0 hF hc0
  go_enter Try.func44, Try.ntmps44
  go_wp2
  go_step3
  go_wp2_with fail
  refine (quote_Good.calls (c.toNat : Int) true _ Hg.out).mono ?_
  rintro e w' ⟨rfl, ⟨nd, rfl⟩⟩
  have hbb : (e0 = 7 ∧ decide ((2048 : Int) < (l.length : Int)) = true) ∨ (e0 = 0 ∧ decide ((2048 : Int) < (l.length : Int)) = false) := by
    by_cases hbig : 2048 < l.length
    · rw [if_pos hbig] at he0
      exact Or.inl ⟨he0, decide_eq_true (by omega)⟩
    · rw [if_neg hbig] at he0
      exact Or.inr ⟨he0, decide_eq_false (by omega)⟩
  clear he0
  obtain ⟨K, hK⟩ : ∃ K : Nat, 10000 < K := ⟨10001, by omega⟩
  rcases hbb with ⟨rfl, hb1⟩ | ⟨rfl, hb1⟩
  all_goals
    go_wp2_with fail
    go_step3
    go_wp2_with fail
    go_loopw [9, 20] (fun ev i wr => ∃ (k : Nat) (e : Int) (acc : Bs), k ≤ l.length ∧ ev = .int .i64 e ∧ i = .int .i64 k ∧ acc.length ≤ k * 10003010 ∧ Bld w.heap.size w.heap.size acc wr ∧ Below w.heap.size w wr ∧ printLoop c crlf (l.drop k) e acc = (FE, FA)) (fun _ i _ => l.length - (intOf i).toNat)
    case atStart => exact ⟨0, _, [], Nat.zero_le _, rfl, rfl, Nat.zero_le _, bld_new (w.drewN nd), (pw_below_drewN (Below.refl _ w) nd).alloc (Nat.le_refl _) _, HF.out⟩
    case round =>
      obtain ⟨k, e, acc, hk, rfl, rfl, hlen, hbd, hB, hP⟩ := hrel
      have hsz := hB.size
      rcases Nat.lt_or_ge k l.length with hlt | hge
      · obtain ⟨ad, B, cb, rfl, hcell0, hlc, hC0⟩ := at_row HR0.out k hlt
        have p0 : (0 : Int) ≤ (k : Int) := by omega
        have q0 : (k : Int) < (l.length : Int) := by omega
        obtain ⟨X, hX⟩ : ∃ X, X = l.getD k [] := ⟨_, rfl⟩
        rw [← hX] at hcell0 hlc hC0
        have hcell := (hB.cell (World.block_lt_of_cell? w _ hcell0)).trans hcell0
        have hC := Kd.C_below hC0 hB
        rw [printLoop_step c crlf l k hlt e acc X hX] at hP
        clear hcell0 hC0 hX
        have hmul : k * 10003010 ≤ 5000 * 10003010 := Nat.mul_le_mul_right _ (by omega)
        have hlen2 : acc.length ≤ (k + 1) * 10003010 := Nat.le_trans hlen (Nat.mul_le_mul_right _ (Nat.le_succ k))
        by_cases hX0 : X.length = 0
        · rw [if_pos hX0] at hP
          simp only [Prod.mk.injEq] at hP
          obtain ⟨rfl, rfl⟩ := hP
          have hx1 : ((X.length : Int) == 0) = true := beq_iff_eq.2 (by omega)
          have HB := Lib.hid hB
          clear hX0 hbd hB hC
          go_wp2
          rw [Exit.noGoto_ret]
          go_ret2
          exact ⟨rfl, HB.out⟩
        · rw [if_neg hX0] at hP
          have hx1 : ((X.length : Int) == 0) = false := beq_eq_false_iff_ne.2 (by omega)
          clear hX0
          by_cases h128 : 128 < X.length
          · have hx2 : decide ((128 : Int) < (X.length : Int)) = true := decide_eq_true (by omega)
            have HP := Lib.hid (show printLoop c crlf (l.drop (k + 1)) 7 acc = (FE, FA) by rw [if_pos (by unfold tooBig; rw [decide_eq_true h128]; rfl)] at hP; exact hP)
            have HBD := Lib.hid hbd
            have HB := Lib.hid hB
            clear hP h128 hbd hB hC
            go_wp2
            go_roundw
            case rel => exact ⟨k + 1, 7, acc, by omega, rfl, by go_num, hlen2, HBD.out, HB.out, HP.out⟩
            case measure => simp [intOf]; omega
          · have hx2 : decide ((128 : Int) < (X.length : Int)) = false := decide_eq_false (by omega)
            have ht : tooBig X = X.any (bigger 4096) := by unfold tooBig; rw [decide_eq_false h128]; rfl
            rw [ht] at hP
            have hlg := large_walk B cb X 4096 wr hC
            cases hany : X.any (bigger 4096) with
            | true =>
              rw [hany] at hP hlg
              have HP := Lib.hid (show printLoop c crlf (l.drop (k + 1)) 7 acc = (FE, FA) from hP)
              have HBD := Lib.hid hbd
              have HB := Lib.hid hB
              have HL := Lib.hid hlg
              clear hP h128 hbd hB hC hany ht hlg
              go_wp2_with fail
              refine HL.out.mono ?_
              rintro ee w' ⟨rfl, hb2⟩
              have HBD2 := Lib.hid (bld_below HBD.out hb2)
              have HB2 := Lib.hid (below_step HB.out hb2)
              clear hb2
              go_wp2
              go_roundw
              case rel => exact ⟨k + 1, 7, acc, by omega, rfl, by go_num, hlen2, HBD2.out, HB2.out, HP.out⟩
              case measure => simp [intOf]; omega
            | false =>
              rw [hany] at hP hlg
              have HP := Lib.hid (show printLoop c crlf (l.drop (k + 1)) e (acc ++ writeB c X crlf) = (FE, FA) from hP)
              have hsm : Small X 5000 := by
                intro x hx
                have := List.any_eq_false.1 hany x hx
                unfold bigger at this
                simp only [decide_eq_true_eq] at this
                omega
              have hwr := lex_Write_big c X crlf (by omega) hsm K (by omega)
              have hwl : (writeB c X crlf).length ≤ 10003002 := by
                have := rowR_big c X (by omega) hsm
                unfold writeB
                rw [List.length_append]
                have : (brk crlf).length ≤ 2 := by cases crlf <;> decide
                omega
              have HW := Lib.hid hwr
              have HBD := Lib.hid hbd
              have HB := Lib.hid hB
              have HL := Lib.hid hlg
              have HC := Lib.hid hC
              clear hP h128 hbd hB hC hany ht hlg hsm hwr
              go_wp2_with fail
              refine HL.out.mono ?_
              rintro ee w1 ⟨rfl, hb2⟩
              have HBD2 := Lib.hid (bld_below HBD.out hb2)
              have HB2 := Lib.hid (below_step HB.out hb2)
              have HC2 := Lib.hid (Kd.C_below HC.out hb2)
              clear hb2
              go_wp2_with fail
              refine (lex_Write.calls K B cb X (c.toNat : Int) crlf _ _ HC2.out hlc HW.out).mono ?_
              rintro ee w2 ⟨rfl, hb3⟩
              have HBD3 := Lib.hid (bld_below HBD2.out hb3)
              have HB3 := Lib.hid (below_step HB2.out hb3)
              clear hb3
              go_wp2_with fail
              refine (bld_writeString w.heap.size w.heap.size acc (ofBs (writeB c X crlf)) w2 HBD3.out (by rw [size_ofBs]; omega) HB3.out.size).mono ?_
              rintro ee w3 ⟨rfl, hb4, hb5, hb6⟩
              rw [toBs_ofBs] at hb4
              have HBD4 := Lib.hid hb4
              have HB4 := Lib.hid (HB3.out.trans hb5)
              clear hb4 hb5 hb6
              go_wp2
              go_roundw
              case rel => exact ⟨k + 1, e, acc ++ writeB c X crlf, by omega, rfl, by go_num, by rw [List.length_append]; omega, HBD4.out, HB4.out, HP.out⟩
              case measure => simp [intOf]; omega
      · have q0 : ¬ (k : Int) < (l.length : Int) := by omega
        rw [List.drop_eq_nil_of_le (by omega)] at hP
        simp only [printLoop, Prod.mk.injEq] at hP
        obtain ⟨rfl, rfl⟩ := hP
        have HBD := Lib.hid hbd
        have HB := Lib.hid hB
        clear hbd hB
        by_cases h0 : e = 0
        · subst h0
          by_cases hbig2 : 4194304 < acc.length
          · have hx3 : decide ((4194304 : Int) < (acc.length : Int)) = true := decide_eq_true (by omega)
            have H2 := Lib.hid hbig2
            clear hbig2
            go_wp2_with fail
            refine (bld_len w.heap.size w.heap.size acc _ HBD.out).mono ?_
            rintro ee w2 ⟨rfl, rfl⟩
            go_wp2
            rw [Exit.noGoto_ret]
            go_ret2
            exact ⟨by rw [if_pos rfl, if_pos H2.out]; rfl, HB.out⟩
          · have hx3 : decide ((4194304 : Int) < (acc.length : Int)) = false := decide_eq_false (by omega)
            have H2 := Lib.hid hbig2
            clear hbig2
            go_wp2_with fail
            refine (bld_len w.heap.size w.heap.size acc _ HBD.out).mono ?_
            rintro ee w2 ⟨rfl, rfl⟩
            go_wp2_with fail
            refine (bld_string w.heap.size w.heap.size acc _ HBD.out hsz).mono ?_
            rintro ee w2 ⟨rfl, hb4, hb5, hb6⟩
            have HB4 := Lib.hid (HB.out.trans hb5)
            clear hb4 hb5 hb6
            go_wp2
            rw [Exit.noGoto_ret]
            go_ret2
            exact ⟨by rw [if_pos rfl, if_neg H2.out]; rfl, HB4.out⟩
        · have hx3 : (e == 0) = false := beq_eq_false_iff_ne.2 h0
          have hx4 : (e != 0) = true := bne_iff_ne.2 h0
          have H0 := Lib.hid h0
          clear h0
          go_wp2
          try rw [Exit.noGoto_ret]
          go_ret2
          exact ⟨by first | rfl | (rw [if_neg H0.out]; rfl), HB.out⟩
theorem csv_Print.calls (A0 : Option Addr) (c0 : Nat) (l0 : List (List ByteArray)) (a1 : Int) (a2 : Bool) (r1 : ByteArray) (r2 : Int) (w : World) (hr0 : Kd.C (Kd.slice 9 Kd.string) w A0 l0.length l0) (hc0 : l0.length ≤ c0) (h : csv_Print.f l0 a1 a2 = some (r1, r2)) :
    Calls Try.prog 44 #[.slice A0 l0.length c0, .int .u8 a1, .bool a2] w fun e w' => e = .returned (.tuple #[.string r1, .int .i64 r2]) ∧ Below w.heap.size w w' := by
  unfold csv_Print.f at h
  split at h
  · rename_i hb
    obtain ⟨h1, h2, h3⟩ := hb
    have h := Option.some.inj h
    cases hg : goodI a1 with
    | false =>
      unfold printF at h
      rw [hg, if_neg (by decide)] at h
      obtain ⟨rfl, rfl⟩ := Prod.mk.inj h
      exact print_bad A0 c0 _ a1 a2 w hg
    | true =>
      obtain ⟨⟨e, acc⟩, hp⟩ : ∃ p, printLoop (UInt8.ofNat a1.toNat) a2 l0 (if 2048 < l0.length then 7 else 0) [] = p := ⟨_, rfl⟩
      rw [print_post l0 a1 a2 e acc hg hp] at h
      have ec : ((UInt8.ofNat a1.toNat).toNat : Int) = a1 := by
        simp only [UInt8.toNat_ofNat']
        omega
      have := print_walk A0 c0 l0 (UInt8.ofNat a1.toNat) a2 w hr0 hc0 h1 (by rw [ec]; exact hg) _ rfl e acc hp
      rw [ec, h] at this
      exact this
  · cases h
end Go.Proofs.Ytggodagdfldndaa.Q.L

namespace Go.Proofs.Ytggodagdfldndaa.Q.L.Y
open Go.RowKit Go.Proofs.YtggodagdfldndaaW.PrintWords Go.Proofs.YtggodagdfldndaaW.PrintLast Go.Proofs.YtggodagdfldndaaW.PrintMore
attribute [local go_sem] max2_int min2_int max_two min_two max_three min_three max_four min_four   -- for this text's walks alone
set_option linter.unusedVariables false
set_option linter.unusedSimpArgs false

def errW : Option Int → Value
  | none => .nilIface
  | some c => .iface 0 (.int .i64 c)
theorem errW_none : errW none = .nilIface := rfl
theorem errW_some (c : Int) : errW (some c) = .iface 0 (.int .i64 c) := rfl

-- the values' own types

end Go.Proofs.Ytggodagdfldndaa.Q.L.Y

namespace Go.Proofs.Ytggodagdfldndaa.Q.L.Y
open Go.RowKit Go.Proofs.YtggodagdfldndaaW.PrintWords Go.Proofs.YtggodagdfldndaaW.PrintLast Go.Proofs.YtggodagdfldndaaW.PrintMore
attribute [local go_sem] max2_int min2_int max_two min_two max_three min_three max_four min_four   -- for this text's walks alone
set_option linter.unusedVariables false
set_option linter.unusedSimpArgs false

-- BY HAND: function 34 (lex_Field)

/-! ### csv_look: function 79 -/
def csv_look.j0 : Nat → ByteArray → Int → Int → Bool → Option (ByteArray × Int × Int × Int × Int)
  | 0, _, _, _, _ => none
  | k + 1, x0, x1, x2, x21 => if x21 = true then (some ((⟨#[]⟩ : ByteArray), 0, x1, 7, x1)) else ((lex_Field.f x0 x1 x2).bind fun bt102 => (if bt102.2.2.2 = 0 then (if (bt102.1.size : Int) > 4096 then (some ((⟨#[]⟩ : ByteArray), 0, x1, 7, x1)) else (some (bt102.1, bt102.2.2.1, x1, 0, bt102.2.1))) else (some ((⟨#[]⟩ : ByteArray), 0, bt102.2.1, bt102.2.2.2, x1))))
def csv_look.f (k : Nat) (a0 : ByteArray) (a1 : Int) (a2 : Int) (a3 : Int) (a4 : Int) : Option (ByteArray × Int × Int × Int × Int) := if a3 ≥ 128 then (csv_look.j0 k a0 a1 a2 true) else (csv_look.j0 k a0 a1 a2 (decide (a4 ≥ 2048)))
theorem csv_look.mono_l : ∀ k, (∀ y0 y1 y2 y3, LeO (csv_look.j0 k y0 y1 y2 y3) (csv_look.j0 (k + 1) y0 y1 y2 y3))
  | 0 => fun _ _ _ _ r h => by simp [csv_look.j0] at h
  | k + 1 => by
    have ih0 := csv_look.mono_l k
    · intro y0 y1 y2 y3
      unfold csv_look.j0
      repeat' first
      | (with_reducible exact ih0 _ _ _ _)
      | (with_reducible exact LeO.refl _)
      | (with_reducible exact LeO.none _)
      | (with_reducible refine LeO.ite ?_ ?_)
      | (with_reducible refine LeO.bind ?_ (fun _ => ?_))
      | exact ih0 _ _ _ _
      | exact LeO.none _
      | refine LeO.ite ?_ ?_
      | refine LeO.bind ?_ (fun _ => ?_)
theorem csv_look.mono : ∀ a0 a1 a2 a3 a4 k, LeO (csv_look.f k a0 a1 a2 a3 a4) (csv_look.f (k + 1) a0 a1 a2 a3 a4) := by
  intro a0 a1 a2 a3 a4 k
  have ih0 := csv_look.mono_l k
  unfold csv_look.f
  repeat' first
      | (with_reducible exact ih0 _ _ _ _)
      | (with_reducible exact LeO.refl _)
      | (with_reducible exact LeO.none _)
      | (with_reducible refine LeO.ite ?_ ?_)
      | (with_reducible refine LeO.bind ?_ (fun _ => ?_))
      | exact ih0 _ _ _ _
      | exact LeO.none _
      | refine LeO.ite ?_ ?_
      | refine LeO.bind ?_ (fun _ => ?_)
set_option maxHeartbeats 8000000 in
set_option maxRecDepth 100000 in
theorem csv_look.calls (k : Nat) (a0 : ByteArray) (a1 : Int) (a2 : Int) (a3 : Int) (a4 : Int) (r1 : ByteArray) (r2 : Int) (r3 : Int) (r4 : Int) (r5 : Int) (w : World) (h : csv_look.f k a0 a1 a2 a3 a4 = some (r1, r2, r3, r4, r5)) :
    Calls Try.prog 79 #[.string a0, .int .i64 a1, .int .u8 a2, .int .i64 a3, .int .i64 a4] w fun e w' => e = .returned (.tuple #[.agg #[.string r1, .int .i64 r2, .int .i64 r3, .int .i64 r4], .int .i64 r5]) ∧ Below w.heap.size w w' := by
  have hu80 := Try.underlying80
  have HB := Aside0.mk (Below.refl w.heap.size w)
  have H : (if a3 ≥ 128 then (csv_look.j0 k a0 a1 a2 true) else (csv_look.j0 k a0 a1 a2 (decide (a4 ≥ 2048)))) = some (r1, r2, r3, r4, r5) := h
  clear h
  have HC6 := Aside0.mk H
  clear H
  go_enter Try.func79, Try.ntmps79
  go_upto_region 1 with (first | ((with_reducible refine gate_dst (N := 10) rfl ?_); refine box_event ?hg (N := 10) ?hd (cs := #[.string (⟨#[]⟩ : ByteArray), .int .i64 0, .int .i64 0, .int .i64 0]) (t := 80) ?hr ?_; (case hd => rfl); (case hg => rfl); (case hr => first | (go_simp; done) | (go_simp; rfl)); intro gb101 hg w7 hbox hb; have n0_ := Aside0.mk (below_step (by repeat (first | (with_reducible first | exact HB.out | apply below_alloc | apply pw_below_drewN | apply below_drew1) | exact HB.out)) hb); have n1_ := Aside0.mk (hbox); have n2_ := Aside0.mk ((by rw [hg]; exact (below_size (by repeat (first | (with_reducible first | exact HB.out | apply below_alloc | apply pw_below_drewN | apply below_drew1) | exact HB.out))) : w.heap.size ≤ gb101)); have n3_ := Aside0.mk ((by rw [hg]; exact (below_size (by repeat (first | (with_reducible first | exact HB.out | apply below_alloc | apply pw_below_drewN | apply below_drew1) | exact HB.out))) : w.heap.size ≤ gb101)); clear HB; have HB := n0_; have BK101 := n1_; have GW101 := n2_; have GE101 := n3_; clear n0_ n1_ n2_ n3_; clear hb hbox hg))
  (try simp only [Act.put, List.setIfInBounds_toArray, List.set_cons_zero, List.set_cons_succ])
  go_cut [21] (fun v21 wc => ∃ (kq : Nat) (x21_5 : Bool), v21 = .bool x21_5 ∧ Aside0 (csv_look.j0 kq a0 a1 a2 x21_5 = some (r1, r2, r3, r4, r5)) ∧ Aside0 (kq ≤ k) ∧ Aside0 (wc.heap[gb101]? = some (.cells #[.string (⟨#[]⟩ : ByteArray), .int .i64 0, .int .i64 0, .int .i64 0] 80 (0, 0))) ∧ Aside0 (Below w.heap.size w wc))
  case first =>
    have H := HC6.out
    clear HC6
    by_cases c8 : a3 ≥ 128
    · rw [if_pos c8] at H
      have c8b0 : decide (128 ≤ a3) = true := decide_eq_true c8
      clear c8
      (first | rw [c8b0] | (simp only [i64_w, i32_w]; rw [c8b0]) | skip)
      have H' := Aside0.mk H
      clear H
      go_wp2
      go_meet
      case rel => exact ⟨_, (true), (by first | rfl | (simp; done) | (simp [*]; done)), H', ⟨by first | omega | exact Nat.le_refl _⟩, ⟨by (with_reducible repeat (first | refine blk_drewN ?_ _ | refine blk_drew ?_ | refine blk_alloc ?_ _)); exact BK101.out⟩, ⟨by repeat (first | (with_reducible first | exact HB.out | apply below_alloc | apply pw_below_drewN | apply below_drew1 | refine below_set ?_ GE101.out) | exact HB.out)⟩⟩
    · rw [if_neg c8] at H
      have c8b0 : decide (128 ≤ a3) = false := decide_eq_false c8
      clear c8
      (first | rw [c8b0] | (simp only [i64_w, i32_w]; rw [c8b0]) | skip)
      have H' := Aside0.mk H
      clear H
      go_wp2
      go_meet
      case rel => exact ⟨_, (decide (a4 ≥ 2048)), (by first | rfl | (simp; done) | (simp [*]; done)), H', ⟨by first | omega | exact Nat.le_refl _⟩, ⟨by (with_reducible repeat (first | refine blk_drewN ?_ _ | refine blk_drew ?_ | refine blk_alloc ?_ _)); exact BK101.out⟩, ⟨by repeat (first | (with_reducible first | exact HB.out | apply below_alloc | apply pw_below_drewN | apply below_drew1 | refine below_set ?_ GE101.out) | exact HB.out)⟩⟩
  case rest =>
    clear HC6
    try clear p2
    try clear c7
    try clear c8
    try clear c8b0
    obtain ⟨kq, x21_5, rfl, HA, HJ5, BK101, HB⟩ := hcut
    cases kq with
    | zero => exact absurd HA.out (by simp [csv_look.j0])
    | succ kj5 =>
      have H := HA.out
      clear HA
      simp only [csv_look.j0] at H
      by_cases c9 : x21_5 = true
      · subst c9
        have H1 : (some ((⟨#[]⟩ : ByteArray), 0, a1, 7, a1)) = some (r1, r2, r3, r4, r5) := by rw [if_pos rfl] at H; exact H
        clear H
        have H := H1
        clear H1
        simp only [Option.some.injEq, Prod.mk.injEq] at H
        obtain ⟨rfl, rfl, rfl, rfl, rfl⟩ := H
        have hcz10_0 : wc.cell? ⟨gb101, 0, none⟩ = some (.string (⟨#[]⟩ : ByteArray)) := (blk_cell BK101.out 0).trans rfl
        have hcz10_1 : wc.cell? ⟨gb101, 1, none⟩ = some (.int .i64 0) := (blk_cell BK101.out 1).trans rfl
        have hcz10_2 : wc.cell? ⟨gb101, 2, none⟩ = some (.int .i64 0) := (blk_cell BK101.out 2).trans rfl
        have hcz10_3 : wc.cell? ⟨gb101, 3, none⟩ = some (.int .i64 0) := (blk_cell BK101.out 3).trans rfl
        have hfz10_0 := blk_frozen BK101.out 0
        have hfz10_1 := blk_frozen BK101.out 1
        have hfz10_2 := blk_frozen BK101.out 2
        have hfz10_3 := blk_frozen BK101.out 3
        go_wp2
        refine bodyPost_ret (results_ct rfl _ _ gb101 80 #[.string (⟨#[]⟩ : ByteArray), .int .i64 0, .int .i64 a1, .int .i64 7] (0, 0) _ rfl (by (with_reducible repeat (first | refine blk_drewN ?_ _ | refine blk_drew ?_ | refine blk_alloc ?_ _)); refine blk_put (cs := #[.string (⟨#[]⟩ : ByteArray), .int .i64 0, .int .i64 a1, .int .i64 0]) ?_ 3 _ rfl; (with_reducible repeat (first | refine blk_drewN ?_ _ | refine blk_drew ?_ | refine blk_alloc ?_ _)); refine blk_put (cs := #[.string (⟨#[]⟩ : ByteArray), .int .i64 0, .int .i64 0, .int .i64 0]) ?_ 2 _ rfl; (with_reducible repeat (first | refine blk_drewN ?_ _ | refine blk_drew ?_ | refine blk_alloc ?_ _)); refine blk_put (cs := #[.string (⟨#[]⟩ : ByteArray), .int .i64 0, .int .i64 0, .int .i64 0]) ?_ 1 _ rfl; (with_reducible repeat (first | refine blk_drewN ?_ _ | refine blk_drew ?_ | refine blk_alloc ?_ _)); refine blk_put (cs := #[.string (⟨#[]⟩ : ByteArray), .int .i64 0, .int .i64 0, .int .i64 0]) ?_ 0 _ rfl; (with_reducible repeat (first | refine blk_drewN ?_ _ | refine blk_drew ?_ | refine blk_alloc ?_ _)); exact BK101.out) Try.underlying80 rfl (by kernel_rfl)) rfl ?_
        exact ⟨by first | rfl | (simp [errW_none, errW_some] <;> rfl) | (simp [*, errW_none, errW_some] <;> rfl), by repeat (first | (with_reducible first | exact HB.out | apply below_alloc | apply pw_below_drewN | apply below_drew1 | refine below_set ?_ GE101.out) | exact HB.out)⟩
      · replace c9 := Bool.eq_false_iff.mpr c9
        subst c9
        have H1 : ((lex_Field.f a0 a1 a2).bind fun bt102 => (if bt102.2.2.2 = 0 then (if (bt102.1.size : Int) > 4096 then (some ((⟨#[]⟩ : ByteArray), 0, a1, 7, a1)) else (some (bt102.1, bt102.2.2.1, a1, 0, bt102.2.1))) else (some ((⟨#[]⟩ : ByteArray), 0, bt102.2.1, bt102.2.2.2, a1)))) = some (r1, r2, r3, r4, r5) := by rw [if_neg (show ¬ (false = true) by decide)] at H; exact H
        clear H
        have H := H1
        clear H1
        replace H := Option.bind_eq_some_iff.mp H
        obtain ⟨⟨t102, t103, t104, t105⟩, A110, H⟩ := H
        replace H : (if t105 = 0 then (if (t102.size : Int) > 4096 then (some ((⟨#[]⟩ : ByteArray), 0, a1, 7, a1)) else (some (t102, t104, a1, 0, t103))) else (some ((⟨#[]⟩ : ByteArray), 0, t103, t105, a1))) = some (r1, r2, r3, r4, r5) := H
        have A11 := Aside0.mk A110
        clear A110
        by_cases c12 : t105 = 0
        · rw [if_pos c12] at H
          have c12b0 : (t105 == 0) = true := beq_iff_eq.mpr c12
          have c12b1 : (t105 != 0) = false := bne_eq_false_iff_eq.mpr c12
          clear c12
          by_cases c13 : (t102.size : Int) > 4096
          · rw [if_pos c13] at H
            have c13b0 : decide (4096 < (t102.size : Int)) = true := decide_eq_true c13
            have c13b1 : decide (4096 < t102.size) = true := decide_eq_true (by omega)
            clear c13
            simp only [Option.some.injEq, Prod.mk.injEq] at H
            obtain ⟨rfl, rfl, rfl, rfl, rfl⟩ := H
            go_wp2_with (first | ((with_reducible refine gate_callee (f := 34) rfl ?_); refine goesL_ (some 29) rfl rfl Try.func34 (by kernel_rfl) rfl #[.string a0, .int .i64 a1, .int .u8 a2] rfl (by (try simp only [List.map_toArray, List.map_cons, List.map_nil]); first | done | rfl | (simp only [List.length_drop, List.length_take]; rfl)) ?_; (with_reducible refine (lex_Field.calls a0 a1 a2 t102 t103 t104 t105 _ A11.out).mono ?_); rintro e w14 ⟨rfl, hb⟩; refine ⟨_, rfl, ?_⟩; have n0_ := Aside0.mk (blk_below (g := gb101) (o := .cells #[.string (⟨#[]⟩ : ByteArray), .int .i64 0, .int .i64 0, .int .i64 0] 80 (0, 0)) (by (with_reducible repeat (first | refine blk_drewN ?_ _ | refine blk_drew ?_ | refine blk_alloc ?_ _)); exact BK101.out) hb); have n1_ := Aside0.mk (below_step (by repeat (first | (with_reducible first | exact HB.out | apply below_alloc | apply pw_below_drewN | apply below_drew1 | refine below_set ?_ GE101.out) | exact HB.out)) hb); clear BK101; clear HB; have BK101 := n0_; have HB := n1_; clear n0_ n1_; (try clear hb); (try clear hb2); (try clear hk); (try clear hi); have hcz15_0 : w14.cell? ⟨gb101, 0, none⟩ = some (.string (⟨#[]⟩ : ByteArray)) := (blk_cell BK101.out 0).trans rfl; have hcz15_1 : w14.cell? ⟨gb101, 1, none⟩ = some (.int .i64 0) := (blk_cell BK101.out 1).trans rfl; have hcz15_2 : w14.cell? ⟨gb101, 2, none⟩ = some (.int .i64 0) := (blk_cell BK101.out 2).trans rfl; have hcz15_3 : w14.cell? ⟨gb101, 3, none⟩ = some (.int .i64 0) := (blk_cell BK101.out 3).trans rfl; have hfz15_0 := blk_frozen BK101.out 0; have hfz15_1 := blk_frozen BK101.out 1; have hfz15_2 := blk_frozen BK101.out 2; have hfz15_3 := blk_frozen BK101.out 3))
            refine bodyPost_ret (results_ct rfl _ _ gb101 80 #[.string (⟨#[]⟩ : ByteArray), .int .i64 0, .int .i64 a1, .int .i64 7] (0, 0) _ rfl (by (with_reducible repeat (first | refine blk_drewN ?_ _ | refine blk_drew ?_ | refine blk_alloc ?_ _)); refine blk_put (cs := #[.string (⟨#[]⟩ : ByteArray), .int .i64 0, .int .i64 a1, .int .i64 0]) ?_ 3 _ rfl; (with_reducible repeat (first | refine blk_drewN ?_ _ | refine blk_drew ?_ | refine blk_alloc ?_ _)); refine blk_put (cs := #[.string (⟨#[]⟩ : ByteArray), .int .i64 0, .int .i64 0, .int .i64 0]) ?_ 2 _ rfl; (with_reducible repeat (first | refine blk_drewN ?_ _ | refine blk_drew ?_ | refine blk_alloc ?_ _)); refine blk_put (cs := #[.string (⟨#[]⟩ : ByteArray), .int .i64 0, .int .i64 0, .int .i64 0]) ?_ 1 _ rfl; (with_reducible repeat (first | refine blk_drewN ?_ _ | refine blk_drew ?_ | refine blk_alloc ?_ _)); refine blk_put (cs := #[.string (⟨#[]⟩ : ByteArray), .int .i64 0, .int .i64 0, .int .i64 0]) ?_ 0 _ rfl; (with_reducible repeat (first | refine blk_drewN ?_ _ | refine blk_drew ?_ | refine blk_alloc ?_ _)); exact BK101.out) Try.underlying80 rfl (by kernel_rfl)) rfl ?_
            exact ⟨by first | rfl | (simp [errW_none, errW_some] <;> rfl) | (simp [*, errW_none, errW_some] <;> rfl), by repeat (first | (with_reducible first | exact HB.out | apply below_alloc | apply pw_below_drewN | apply below_drew1 | refine below_set ?_ GE101.out) | exact HB.out)⟩
          · rw [if_neg c13] at H
            have c13b0 : decide (4096 < (t102.size : Int)) = false := decide_eq_false c13
            have c13b1 : decide (4096 < t102.size) = false := decide_eq_false (by omega)
            clear c13
            simp only [Option.some.injEq, Prod.mk.injEq] at H
            obtain ⟨rfl, rfl, rfl, rfl, rfl⟩ := H
            go_wp2_with (first | ((with_reducible refine gate_callee (f := 34) rfl ?_); refine goesL_ (some 29) rfl rfl Try.func34 (by kernel_rfl) rfl #[.string a0, .int .i64 a1, .int .u8 a2] rfl (by (try simp only [List.map_toArray, List.map_cons, List.map_nil]); first | done | rfl | (simp only [List.length_drop, List.length_take]; rfl)) ?_; (with_reducible refine (lex_Field.calls a0 a1 a2 t102 t103 t104 t105 _ A11.out).mono ?_); rintro e w16 ⟨rfl, hb⟩; refine ⟨_, rfl, ?_⟩; have n0_ := Aside0.mk (blk_below (g := gb101) (o := .cells #[.string (⟨#[]⟩ : ByteArray), .int .i64 0, .int .i64 0, .int .i64 0] 80 (0, 0)) (by (with_reducible repeat (first | refine blk_drewN ?_ _ | refine blk_drew ?_ | refine blk_alloc ?_ _)); exact BK101.out) hb); have n1_ := Aside0.mk (below_step (by repeat (first | (with_reducible first | exact HB.out | apply below_alloc | apply pw_below_drewN | apply below_drew1 | refine below_set ?_ GE101.out) | exact HB.out)) hb); clear BK101; clear HB; have BK101 := n0_; have HB := n1_; clear n0_ n1_; (try clear hb); (try clear hb2); (try clear hk); (try clear hi); have hcz17_0 : w16.cell? ⟨gb101, 0, none⟩ = some (.string (⟨#[]⟩ : ByteArray)) := (blk_cell BK101.out 0).trans rfl; have hcz17_1 : w16.cell? ⟨gb101, 1, none⟩ = some (.int .i64 0) := (blk_cell BK101.out 1).trans rfl; have hcz17_2 : w16.cell? ⟨gb101, 2, none⟩ = some (.int .i64 0) := (blk_cell BK101.out 2).trans rfl; have hcz17_3 : w16.cell? ⟨gb101, 3, none⟩ = some (.int .i64 0) := (blk_cell BK101.out 3).trans rfl; have hfz17_0 := blk_frozen BK101.out 0; have hfz17_1 := blk_frozen BK101.out 1; have hfz17_2 := blk_frozen BK101.out 2; have hfz17_3 := blk_frozen BK101.out 3))
            refine bodyPost_ret (results_ct rfl _ _ gb101 80 #[.string t102, .int .i64 t104, .int .i64 a1, .int .i64 0] (0, 0) _ rfl (by (with_reducible repeat (first | refine blk_drewN ?_ _ | refine blk_drew ?_ | refine blk_alloc ?_ _)); refine blk_put (cs := #[.string t102, .int .i64 t104, .int .i64 a1, .int .i64 0]) ?_ 3 _ rfl; (with_reducible repeat (first | refine blk_drewN ?_ _ | refine blk_drew ?_ | refine blk_alloc ?_ _)); refine blk_put (cs := #[.string t102, .int .i64 t104, .int .i64 0, .int .i64 0]) ?_ 2 _ rfl; (with_reducible repeat (first | refine blk_drewN ?_ _ | refine blk_drew ?_ | refine blk_alloc ?_ _)); refine blk_put (cs := #[.string t102, .int .i64 0, .int .i64 0, .int .i64 0]) ?_ 1 _ rfl; (with_reducible repeat (first | refine blk_drewN ?_ _ | refine blk_drew ?_ | refine blk_alloc ?_ _)); refine blk_put (cs := #[.string (⟨#[]⟩ : ByteArray), .int .i64 0, .int .i64 0, .int .i64 0]) ?_ 0 _ rfl; (with_reducible repeat (first | refine blk_drewN ?_ _ | refine blk_drew ?_ | refine blk_alloc ?_ _)); exact BK101.out) Try.underlying80 rfl (by kernel_rfl)) rfl ?_
            exact ⟨by first | rfl | (simp [errW_none, errW_some] <;> rfl) | (simp [*, errW_none, errW_some] <;> rfl), by repeat (first | (with_reducible first | exact HB.out | apply below_alloc | apply pw_below_drewN | apply below_drew1 | refine below_set ?_ GE101.out) | exact HB.out)⟩
        · rw [if_neg c12] at H
          have c12b0 : (t105 == 0) = false := beq_eq_false_iff_ne.mpr c12
          have c12b1 : (t105 != 0) = true := bne_iff_ne.mpr c12
          simp only [Option.some.injEq, Prod.mk.injEq] at H
          obtain ⟨rfl, rfl, rfl, rfl, rfl⟩ := H
          go_wp2_with (first | ((with_reducible refine gate_callee (f := 34) rfl ?_); refine goesL_ (some 29) rfl rfl Try.func34 (by kernel_rfl) rfl #[.string a0, .int .i64 a1, .int .u8 a2] rfl (by (try simp only [List.map_toArray, List.map_cons, List.map_nil]); first | done | rfl | (simp only [List.length_drop, List.length_take]; rfl)) ?_; (with_reducible refine (lex_Field.calls a0 a1 a2 t102 t103 t104 t105 _ A11.out).mono ?_); rintro e w18 ⟨rfl, hb⟩; refine ⟨_, rfl, ?_⟩; have n0_ := Aside0.mk (blk_below (g := gb101) (o := .cells #[.string (⟨#[]⟩ : ByteArray), .int .i64 0, .int .i64 0, .int .i64 0] 80 (0, 0)) (by (with_reducible repeat (first | refine blk_drewN ?_ _ | refine blk_drew ?_ | refine blk_alloc ?_ _)); exact BK101.out) hb); have n1_ := Aside0.mk (below_step (by repeat (first | (with_reducible first | exact HB.out | apply below_alloc | apply pw_below_drewN | apply below_drew1 | refine below_set ?_ GE101.out) | exact HB.out)) hb); clear BK101; clear HB; have BK101 := n0_; have HB := n1_; clear n0_ n1_; (try clear hb); (try clear hb2); (try clear hk); (try clear hi); have hcz19_0 : w18.cell? ⟨gb101, 0, none⟩ = some (.string (⟨#[]⟩ : ByteArray)) := (blk_cell BK101.out 0).trans rfl; have hcz19_1 : w18.cell? ⟨gb101, 1, none⟩ = some (.int .i64 0) := (blk_cell BK101.out 1).trans rfl; have hcz19_2 : w18.cell? ⟨gb101, 2, none⟩ = some (.int .i64 0) := (blk_cell BK101.out 2).trans rfl; have hcz19_3 : w18.cell? ⟨gb101, 3, none⟩ = some (.int .i64 0) := (blk_cell BK101.out 3).trans rfl; have hfz19_0 := blk_frozen BK101.out 0; have hfz19_1 := blk_frozen BK101.out 1; have hfz19_2 := blk_frozen BK101.out 2; have hfz19_3 := blk_frozen BK101.out 3))
          refine bodyPost_ret (results_ct rfl _ _ gb101 80 #[.string (⟨#[]⟩ : ByteArray), .int .i64 0, .int .i64 t103, .int .i64 t105] (0, 0) _ rfl (by (with_reducible repeat (first | refine blk_drewN ?_ _ | refine blk_drew ?_ | refine blk_alloc ?_ _)); refine blk_put (cs := #[.string (⟨#[]⟩ : ByteArray), .int .i64 0, .int .i64 t103, .int .i64 0]) ?_ 3 _ rfl; (with_reducible repeat (first | refine blk_drewN ?_ _ | refine blk_drew ?_ | refine blk_alloc ?_ _)); refine blk_put (cs := #[.string (⟨#[]⟩ : ByteArray), .int .i64 0, .int .i64 0, .int .i64 0]) ?_ 2 _ rfl; (with_reducible repeat (first | refine blk_drewN ?_ _ | refine blk_drew ?_ | refine blk_alloc ?_ _)); refine blk_put (cs := #[.string (⟨#[]⟩ : ByteArray), .int .i64 0, .int .i64 0, .int .i64 0]) ?_ 1 _ rfl; (with_reducible repeat (first | refine blk_drewN ?_ _ | refine blk_drew ?_ | refine blk_alloc ?_ _)); refine blk_put (cs := #[.string (⟨#[]⟩ : ByteArray), .int .i64 0, .int .i64 0, .int .i64 0]) ?_ 0 _ rfl; (with_reducible repeat (first | refine blk_drewN ?_ _ | refine blk_drew ?_ | refine blk_alloc ?_ _)); exact BK101.out) Try.underlying80 rfl (by kernel_rfl)) rfl ?_
          exact ⟨by first | rfl | (simp [errW_none, errW_some] <;> rfl) | (simp [*, errW_none, errW_some] <;> rfl), by repeat (first | (with_reducible first | exact HB.out | apply below_alloc | apply pw_below_drewN | apply below_drew1 | refine below_set ?_ GE101.out) | exact HB.out)⟩

end Go.Proofs.Ytggodagdfldndaa.Q.L.Y

namespace Go.Proofs.Ytggodagdfldndaa.Q.L
open Go.RowKit Go.Shelf Go.Proofs.YtggodagdfldndaaW.PrintWords Go.Proofs.YtggodagdfldndaaW.PrintLast Go.Proofs.YtggodagdfldndaaW.PrintMore Go.Proofs.Ytggodagdfldndaa.Q.L.Y
attribute [local go_sem] Oper.semAt_some
/-- csv.look, as_ the plain 'lookR'. -/
theorem look_f (s : ByteArray) (a n m : Nat) (d : Int) (hs : s.size ≤ 1048576) (ha : a ≤ s.size) (hg : goodI d = true) (k : Nat) :
    csv_look.f (k + 1) s a d n m = some ((lookR (toBs s) d a n m).1.c, ((lookR (toBs s) d a n m).1.kind : Int), ((lookR (toBs s) d a n m).1.pl : Int), ((lookR (toBs s) d a n m).1.e : Int), ((lookR (toBs s) d a n m).2 : Int)) := by
  unfold csv_look.f lookR
  by_cases h1 : 128 ≤ n
  · rw [if_pos (by omega), if_pos (Or.inl h1)]; simp only [csv_look.j0]; rfl
  · rw [if_neg (by omega)]
    by_cases h2 : 2048 ≤ m
    · rw [if_pos (Or.inr h2), decide_eq_true (by omega)]; simp only [csv_look.j0]; rfl
    · rw [if_neg (by omega), decide_eq_false (by omega)]
      have hF : outF (field (toBs s) a d) = (ofBs (fieldR d ((toBs s).drop a)).1, ((a + (fieldR d ((toBs s).drop a)).2.1 : Nat) : Int), ((fieldR d ((toBs s).drop a)).2.2.1 : Int), ((fieldR d ((toBs s).drop a)).2.2.2 : Int)) := by
        unfold outF field
        rw [if_neg (by rw [size_toBs]; omega), if_pos hg, Int.toNat_natCast]
        rfl
      simp only [csv_look.j0]
      rw [if_neg (by decide), lex_Field_f s a d hs, Option.bind_some, hF]
      dsimp only
      by_cases h3 : (fieldR d ((toBs s).drop a)).2.2.2 = 0
      · rw [if_pos (by omega), if_pos h3, size_ofBs]
        by_cases h4 : 4096 < (fieldR d ((toBs s).drop a)).1.length
        · rw [if_pos (by omega), if_pos h4]; rfl
        · rw [if_neg (by omega), if_neg h4]; rfl
      · rw [if_neg (by omega), if_neg h3]; rfl
theorem look_ok (s : Bs) (d : Int) (a n m : Nat) (X : It) (nx : Nat) (h : lookR s d a n m = (X, nx)) (he : X.e = 0) (ha : a ≤ s.length) :
    n < 128 ∧ m < 2048 ∧ nx ≤ s.length ∧ ((X.kind = 3 ∧ nx = s.length) ∨ (X.kind ≠ 3 ∧ X.kind ≠ 0 ∧ a + 1 ≤ nx)) := by
  unfold lookR at h
  split at h
  · obtain ⟨rfl, rfl⟩ := Prod.mk.inj h; cases he
  · rename_i h1
    split at h
    · rename_i h2
      split at h
      · obtain ⟨rfl, rfl⟩ := Prod.mk.inj h; cases he
      · obtain ⟨rfl, rfl⟩ := Prod.mk.inj h
        obtain ⟨g1, g2⟩ := field_step d (s.drop a) h2
        rw [List.length_drop] at g1 g2
        refine ⟨by omega, by omega, by omega, ?_⟩
        dsimp only
        rcases g2 with ⟨g2, g3⟩ | ⟨g2, g3, g4⟩
        · exact Or.inl ⟨g2, by omega⟩
        · exact Or.inr ⟨g2, g3, by omega⟩
    · rename_i h2
      obtain ⟨rfl, rfl⟩ := Prod.mk.inj h
      exact absurd he h2
def encIt (x : It) : Array Value := #[.int .i64 x.m, .agg #[.string x.c, .int .i64 x.kind, .int .i64 x.pl, .int .i64 x.e]]
/-- What the iterator asks of a round: what it captured stays, and the fields that are laid down. -/
def KpP (b1 b2 : Nat) (s : ByteArray) (d : Int) (W W' : World) : Prop :=
  (W.cell? ⟨b1, 0, none⟩ = some (.string s) → W'.cell? ⟨b1, 0, none⟩ = some (.string s)) ∧ (W.cell? ⟨b2, 0, none⟩ = some (.int .u8 d) → W'.cell? ⟨b2, 0, none⟩ = some (.int .u8 d)) ∧
  (∀ (k : Nat) (cs : Array Value) (fr : Nat × Nat), W.heap[k]? = some (.cells cs 80 fr) → W'.heap[k]? = some (.cells cs 80 fr))
set_option maxHeartbeats 1000000 in
set_option maxRecDepth 100000 in
theorem fields_make (s : ByteArray) (d : Int) (w : World) :
    Calls Try.prog 62 #[.string s, .int .u8 d] w fun e w' => e = .returned (.func (.func 78) #[] #[.pointer (some ⟨w.heap.size, 0, none⟩), .pointer (some ⟨w.heap.size + 1, 0, none⟩)]) ∧ w' = (w.alloc (.cells #[.string s] 9)).alloc (.cells #[.int .u8 d] 5) := by
  go_enter Try.func62, Try.ntmps62
  go_wp2
  go_ret
  exact ⟨rfl, rfl⟩
set_option maxHeartbeats 4000000 in
set_option maxRecDepth 100000 in
theorem fields_stops (s : ByteArray) (d : Int) (hs : s.size ≤ 1048576) (hg : goodI d = true) (b1 b2 : Nat) (w : World) (hc1 : w.cell? ⟨b1, 0, none⟩ = some (.string s)) (hc2 : w.cell? ⟨b2, 0, none⟩ = some (.int .u8 d)) (hb1 : b1 < w.heap.size) (hb2 : b2 < w.heap.size) :
    SeqStopsN Fence.wide 11 Try.prog 78 #[.pointer (some ⟨b1, 0, none⟩), .pointer (some ⟨b2, 0, none⟩)] encIt (KpP b1 b2 s d) (NextIt (its (toBs s) d)) (fun xs => xs = its (toBs s) d) (fun pre => ∃ rest, its (toBs s) d = pre ++ rest) w := fun l J Jx W hW hJ hJx hY h0 => by
  have hw1 : W.cell? ⟨b1, 0, none⟩ = some (.string s) := (hW.cell (p := ⟨b1, 0, none⟩) hb1).trans hc1
  have hw2 : W.cell? ⟨b2, 0, none⟩ = some (.int .u8 d) := (hW.cell (p := ⟨b2, 0, none⟩) hb2).trans hc2
  clear hc1 hc2
  have HG := Lib.hid hg
  clear hg
  refine callsIn_of_wp Try.func78 rfl trivial ?_ rfl
  simp only [Try.ntmps78, List.size_toArray, List.length_cons, List.length_nil, Nat.reduceAdd, Nat.reduceSub, Array.replicate_succ, Array.replicate_zero, List.push_toArray, List.append_toArray, List.nil_append, List.cons_append]
  gi_wp2
  gi_loopw [4, 5, 6] (fun nv mv av wr => ∃ (pre : List It) (a n m k : Nat), a ≤ s.size ∧ n ≤ 200 ∧ m ≤ 3000 ∧ nv = .int .i64 n ∧ mv = .int .i64 m ∧ av = .int .i64 a ∧ its (toBs s) d = pre ++ itsF (toBs s) d k a n m ∧ (s.size + 1 ≤ a + k ∨ (a = s.size ∧ n = 0)) ∧ J pre wr ∧ wr.cell? ⟨b1, 0, none⟩ = some (.string s) ∧ wr.cell? ⟨b2, 0, none⟩ = some (.int .u8 d)) (fun nv mv av _ => 2 * (s.size - (intOf av).toNat) + (if intOf nv = 0 then 0 else 1))
  case atStart =>
    exact ⟨[], 0, 0, 0, (toBs s).length + 2, Nat.zero_le _, Nat.zero_le _, Nat.zero_le _, rfl, rfl, rfl, rfl, Or.inl (by rw [size_toBs]; omega), h0, hw1, hw2⟩
  case round =>
    obtain ⟨pre, a, n, m, k, ha, hn, hm, rfl, rfl, rfl, hits, hk, hj, hr1, hr2⟩ := hrel
    by_cases hgo : a < s.size ∨ 0 < n
    · have hk1 : 1 ≤ k := by omega
      obtain ⟨k, rfl⟩ : ∃ q, k = q + 1 := ⟨k - 1, by omega⟩
      have hlk := look_f s a n m d hs ha HG.out 0
      have hlm := lookR_m (toBs s) d a n m
      obtain ⟨⟨X, nx⟩, hX⟩ : ∃ p, lookR (toBs s) d a n m = p := ⟨_, rfl⟩
      rw [hX] at hlk hlm
      dsimp only at hlk hlm
      have hnext : itsF (toBs s) d (k + 1) a n m = if X.e = 0 then (if X.kind = 1 then X :: itsF (toBs s) d k nx (n + 1) m else X :: itsF (toBs s) d k nx 0 (m + 1)) else [X] := by
        rw [itsF, if_pos (by rw [size_toBs]; exact hgo), hX]
      have hnx : NextIt (its (toBs s) d) pre X := by
        rw [hits, hnext]
        split
        · split
          · exact ⟨_, rfl⟩
          · exact ⟨_, rfl⟩
        · exact ⟨[], rfl⟩
      have HLK := Lib.hid hlk
      have hxx : (decide ((a : Int) < (s.size : Int)) = true) ∨ (decide ((a : Int) < (s.size : Int)) = false ∧ decide ((0 : Int) < (n : Int)) = true) := by
        by_cases h : a < s.size
        · exact Or.inl (decide_eq_true (by omega))
        · exact Or.inr ⟨decide_eq_false (by omega), decide_eq_true (by omega)⟩
      have HN := Lib.hid hnext
      have HX := Lib.hid hX
      have HNX := Lib.hid hnx
      clear hlk hnext hX hnx
      have hxn : (decide (a < s.size) = true) ∨ (decide (a < s.size) = false ∧ decide (0 < n) = true) := by
        by_cases h : a < s.size
        · exact Or.inl (decide_eq_true h)
        · exact Or.inr ⟨decide_eq_false h, decide_eq_true (by omega)⟩
      clear hxx
      rcases hxn with hx1 | ⟨hx1, hx2⟩
      all_goals
        gi_wp2_with (refine ⟨trivial, ?_⟩; gi_at_call 79; refine (callsIn_wide.2 (csv_look.calls 1 s (a : Int) d (n : Int) (m : Int) _ _ _ _ _ _ HLK.out)).mono ?_; rintro e W1 ⟨rfl, hbel⟩)
        obtain ⟨W2, hW2⟩ : ∃ W2, W2 = W1.alloc (.cells #[.string X.c, .int .i64 X.kind, .int .i64 X.pl, .int .i64 X.e] 80) := ⟨_, rfl⟩
        rw [← hW2]
        have hB2 : Below wr.heap.size wr W2 := by rw [hW2]; exact hbel.alloc hbel.size _
        have hb3 : W2.heap[W1.heap.size]? = some (.cells #[.string X.c, .int .i64 X.kind, .int .i64 X.pl, .int .i64 X.e] 80 (0, 0)) := by rw [hW2]; exact heap_alloc_new W1 _
        have hj2 : J pre W2 := hJ pre wr W2 none hj ⟨hB2.os, hB2.tape, hB2.output, hB2.size, fun k hk _ => hB2.block k hk⟩ (fun r e => by cases e)
        have hd1 := (hB2.cell (World.block_lt_of_cell? wr _ hr1)).trans hr1
        have hd2 := (hB2.cell (World.block_lt_of_cell? wr _ hr2)).trans hr2
        generalize W1.heap.size = bf at hb3 ⊢
        clear hW2 hbel hB2 hr1 hr2 hj
        obtain ⟨fn, tmps, assign, body, hy, hR⟩ := hY pre X W2 hj2 HNX.out
        simp only [encIt, hlm] at hy
        rw [hy]
        gi_wp2
        refine hR.mono ?_
        rintro e W' (⟨rfl, hJ', hkp⟩ | ⟨rfl, hx'⟩)
        · have hc1 := hkp.1 hd1
          have hc2 := hkp.2.1 hd2
          have hb4 := hkp.2.2 _ _ _ hb3
          have f3 : W'.cell? ⟨bf, 3, none⟩ = some (.int .i64 X.e) := by rw [Lib.cell_of_heap hb4]; rfl
          have f1 : W'.cell? ⟨bf, 1, none⟩ = some (.int .i64 X.kind) := by rw [Lib.cell_of_heap hb4]; rfl
          clear hkp hb3 hd1 hd2 hj2 hR hy
          by_cases he : X.e = 0
          · have he1 : ((X.e : Int) != 0) = false := bne_eq_false_iff_eq.2 (by omega)
            obtain ⟨g1, g2, g3, g4⟩ := look_ok (toBs s) d a n m X nx HX.out he (by rw [size_toBs]; exact ha)
            rw [size_toBs] at g3 g4
            have hn2 := HN.out
            rw [if_pos he] at hn2
            by_cases hkind : X.kind = 1
            · have hk2 : ((X.kind : Int) != 1) = false := bne_eq_false_iff_eq.2 (by omega)
              have HI := Lib.hid (show its (toBs s) d = (pre ++ [X]) ++ itsF (toBs s) d k nx (n + 1) m by rw [hits, hn2, if_pos hkind]; simp)
              have g5 : a + 1 ≤ nx := by rcases g4 with ⟨h, _⟩ | ⟨_, _, h⟩ <;> omega
              have g6 : s.size + 1 ≤ nx + k ∨ (nx = s.size ∧ n + 1 = 0) := by omega
              have g7 : 2 * (s.size - nx) + 1 < 2 * (s.size - a) + (if n = 0 then 0 else 1) := by split <;> omega
              have G6 := Lib.hid g6
              have G7 := Lib.hid g7
              clear hits hn2 he hkind g4 g5 g6 g7
              gi_wp2
              go_roundw
              case rel => exact ⟨pre ++ [X], nx, n + 1, m, k, by omega, by omega, by omega, by go_num, rfl, rfl, HI.out, G6.out, hJ', hc1, hc2⟩
              case measure =>
                have g8 : ¬ ((n : Int) + 1 = 0) := by omega
                simp [intOf, g8]
                simpa using G7.out
            · have hk2 : ((X.kind : Int) != 1) = true := bne_iff_ne.2 (by omega)
              have HI := Lib.hid (show its (toBs s) d = (pre ++ [X]) ++ itsF (toBs s) d k nx 0 (m + 1) by rw [hits, hn2, if_neg hkind]; simp)
              have g6 : s.size + 1 ≤ nx + k ∨ (nx = s.size ∧ 0 = 0) := by rcases g4 with ⟨_, h⟩ | ⟨_, _, h⟩ <;> omega
              have g7 : 2 * (s.size - nx) + 0 < 2 * (s.size - a) + (if n = 0 then 0 else 1) := by split <;> rcases g4 with ⟨_, h⟩ | ⟨_, _, h⟩ <;> omega
              have G6 := Lib.hid g6
              have G7 := Lib.hid g7
              clear hits hn2 he hkind g4 g6 g7
              gi_wp2
              go_roundw
              case rel => exact ⟨pre ++ [X], nx, 0, m + 1, k, by omega, by omega, by omega, rfl, by go_num, rfl, HI.out, by simpa using G6.out, hJ', hc1, hc2⟩
              case measure =>
                simp [intOf]
                simpa using G7.out
          · have he1 : ((X.e : Int) != 0) = true := bne_iff_ne.2 (by omega)
            have HI := Lib.hid (show its (toBs s) d = pre ++ [X] by rw [hits, HN.out, if_neg he])
            clear hits he
            gi_wp2
            refine bodyPost_ret (results_none rfl _ _ _) rfl ?_
            exact ⟨⟨_, rfl⟩, .inl ⟨pre ++ [X], HI.out.symm, hJ'⟩⟩
        · have HI := Lib.hid (show ∃ rest, its (toBs s) d = (pre ++ [X]) ++ rest by obtain ⟨rest, h⟩ := HNX.out; exact ⟨rest, by rw [h]; simp⟩)
          clear hits hb3 hd1 hd2 hj2 hR hy
          gi_wp2
          refine bodyPost_ret (results_none rfl _ _ _) rfl ?_
          exact ⟨⟨_, rfl⟩, .inr ⟨pre ++ [X], HI.out, hx'⟩⟩
    · have hx1 : decide ((a : Int) < (s.size : Int)) = false := decide_eq_false (by omega)
      have hx2 : decide ((0 : Int) < (n : Int)) = false := decide_eq_false (by omega)
      have hfin : its (toBs s) d = pre := by
        rw [hits]
        have : itsF (toBs s) d k a n m = [] := by
          cases k with
          | zero => rfl
          | succ k => unfold itsF; rw [if_neg (by rw [size_toBs]; omega)]
        rw [this, List.append_nil]
      have HF := Lib.hid hfin
      clear hits hfin
      gi_wp2
      go_end0
      exact ⟨⟨_, rfl⟩, .inl ⟨pre, HF.out.symm, hj⟩⟩
end Go.Proofs.Ytggodagdfldndaa.Q.L

namespace Go.Proofs.Ytggodagdfldndaa
/-- One field more, by what counts of it. -/
def addP (l : List (List ByteArray)) (p : Nat × ByteArray) : List (List ByteArray) := if p.1 = l.length then l ++ [[p.2]] else l.set p.1 (l.getD p.1 [] ++ [p.2])
theorem addP_next (l0 : List (List ByteArray)) (r : List ByteArray) (c : ByteArray) : addP (l0 ++ [r]) (l0.length, c) = l0 ++ [r ++ [c]] := by
  unfold addP
  rw [if_neg (by simp)]
  simp
/-- A record that csv takes. -/
def RowOk (r : List ByteArray) : Prop := r ≠ [] ∧ r.length ≤ 128 ∧ ∀ y ∈ r, y.size ≤ 4096
theorem itsF_end (s : Bs) (d : Int) (k m : Nat) : itsF s d k s.length 0 m = [] := by
  cases k with
  | zero => rfl
  | succ k => rw [itsF, if_neg (by omega)]
/-- What was parsed: the records, or what is wrong where. -/
def parseF (s : Bs) (d : Int) : List (List ByteArray) × Int × Int :=
  if goodI d = true then (match (its s d).find? (fun x => x.e != 0) with
    | some x => ([], (x.pl : Int), (x.e : Int))
    | none => (rowsOf (its s d), 0, 0))
  else ([], 0, 2)
theorem parseF_ok (s : Bs) (d : Int) (hg : goodI d = true) (h : ∀ i ∈ its s d, i.e = 0) : parseF s d = (rowsOf (its s d), 0, 0) := by
  unfold parseF
  rw [if_pos hg, List.find?_eq_none.2 (fun x hx => by rw [h x hx]; decide)]
end Go.Proofs.Ytggodagdfldndaa

namespace Go.Proofs.Ytggodagdfldndaa
theorem plainF_isPlain (d : Int) : ∀ l : Bs, (plainF d l).2.2.2 = 0 → plain (plainF d l).1 d = true
  | [], _ => rfl
  | c :: r, h => by
    unfold plainF at h ⊢
    by_cases h1 : (endR (c :: r) d).1 = 0
    · rw [if_pos h1] at h ⊢
      by_cases h2 : c = 34
      · rw [if_pos h2] at h; cases h
      · rw [if_neg h2] at h ⊢
        by_cases h3 : c = 13
        · rw [if_pos h3] at h; cases h
        · rw [if_neg h3] at h ⊢
          by_cases h4 : (plainF d r).2.2.2 = 0
          · rw [if_pos h4]
            have ih := plainF_isPlain d r h4
            simp only [endR] at h1
            have hd : (c.toNat : Int) ≠ d := by
              intro e; rw [if_pos e] at h1; cases h1
            rw [if_neg hd] at h1
            have hb : breakR (c :: r) = 0 := by
              by_cases e : breakR (c :: r) = 0
              · exact e
              · rw [if_neg e] at h1; cases h1
            have h10 : c ≠ 10 := by
              rintro rfl
              cases r <;> simp [breakR] at hb
            have q1 : (c.toNat : Int) ≠ 34 := fun e => h2 (UInt8.toNat_inj.1 (by show c.toNat = 34; omega))
            have q2 : (c.toNat : Int) ≠ 13 := fun e => h3 (UInt8.toNat_inj.1 (by show c.toNat = 13; omega))
            have q3 : (c.toNat : Int) ≠ 10 := fun e => h10 (UInt8.toNat_inj.1 (by show c.toNat = 10; omega))
            show plain (c :: (plainF d r).1) d = true
            simp only [plain, List.all_cons, goodI, Bool.and_eq_true, bne_iff_ne, ne_eq] at ih ⊢
            exact ⟨⟨hd, q1, q2, q3⟩, ih⟩
          · rw [if_neg h4] at h; exact absurd h h4
    · rw [if_neg h1]; rfl
theorem endR_pos (l : Bs) (d : Int) (h0 : (endR l d).1 ≠ 0) (h3 : (endR l d).1 ≠ 3) : 1 ≤ (endR l d).2 := by
  cases l with
  | nil => exact absurd rfl h3
  | cons e r =>
    simp only [endR] at h0 ⊢
    split
    · exact Nat.le_refl 1
    · rename_i h1
      rw [if_neg h1] at h0
      split
      · rename_i h2; rw [if_pos h2] at h0; exact absurd rfl h0
      · rename_i h2; exact Nat.pos_of_ne_zero h2
theorem put_le_quoted (x : Bs) (d : Int) : (put x d).length ≤ (quoted x).length := by
  unfold put
  split
  · rw [quoted_length]; omega
  · exact Nat.le_refl _
theorem field_cost (d : Int) (l : Bs) (h : (fieldR d l).2.2.2 = 0) : (put (fieldR d l).1 d).length + (if (fieldR d l).2.2.1 = 3 then 0 else 1) ≤ (fieldR d l).2.1 := by
  unfold fieldR at h ⊢
  by_cases hq : l.head? = some 34
  · rw [if_pos hq] at h ⊢
    unfold quotedF at h ⊢
    by_cases h1 : (getq l).2.2 = 0
    · rw [if_pos h1] at h ⊢
      by_cases h2 : (endR (l.drop (getq l).2.1) d).1 = 0
      · rw [if_pos h2] at h; cases h
      · rw [if_neg h2]
        obtain ⟨_, a2, a3, _⟩ := getq_only l (getq l).1 (getq l).2.1 (by rw [← h1])
        have e1 := congrArg List.length a3
        rw [List.length_take, Nat.min_eq_left a2] at e1
        have e2 := put_le_quoted (getq l).1 d
        dsimp only
        split
        · omega
        · rename_i h3
          have := endR_pos _ d h2 h3
          omega
    · rw [if_neg h1] at h; exact absurd h h1
  · rw [if_neg hq] at h ⊢
    obtain ⟨rest, e1, e2, e3, e4, e5⟩ := plainF_ok d l h
    have e6 : put (plainF d l).1 d = (plainF d l).1 := by unfold put; rw [if_pos (plainF_isPlain d l h)]
    rw [e6, e3, e4]
    split
    · omega
    · rename_i h3
      have := endR_pos _ d e2 h3
      omega
/-- How many bytes a record takes as_ it is written with a break of one byte. -/
def costR (d : Int) : List ByteArray → Nat
  | [] => 0
  | x :: r => (put (toBs x) d).length + 1 + costR d r
def costL (d : Int) : List (List ByteArray) → Nat
  | [] => 0
  | r :: l => costR d r + costL d l
theorem costR_snoc (d : Int) (x : ByteArray) : ∀ r : List ByteArray, costR d (r ++ [x]) = costR d r + ((put (toBs x) d).length + 1)
  | [] => by simp [costR]
  | y :: r => by rw [List.cons_append, costR, costR, costR_snoc d x r]; omega
theorem costL_append (d : Int) (k : List (List ByteArray)) : ∀ l : List (List ByteArray), costL d (l ++ k) = costL d l + costL d k
  | [] => by simp [costL]
  | r :: l => by rw [List.cons_append, costL, costL, costL_append d k l]; omega
/-- The state of reading: the n-th field of the m-th record is next. -/
def AtState (l : List (List ByteArray)) (n m : Nat) : Prop := (n = 0 ∧ l.length = m) ∨ (0 < n ∧ ∃ l0 r, l = l0 ++ [r] ∧ l0.length = m ∧ r.length = n)
theorem addIt_state (l : List (List ByteArray)) (n m : Nat) (X : It) (hX : X.m = m) (h : AtState l n m) :
    ∃ l0 r, addIt l X = l0 ++ [r ++ [X.c]] ∧ l0.length = m ∧ r.length = n ∧ ((n = 0 ∧ l = l0 ∧ r = []) ∨ (0 < n ∧ l = l0 ++ [r])) := by
  rcases h with ⟨h1, h2⟩ | ⟨h1, l0, r, h2, h3, h4⟩
  · refine ⟨l, [], ?_, h2, h1.symm, Or.inl ⟨h1, rfl, rfl⟩⟩
    unfold addIt
    rw [if_pos (by omega)]; rfl
  · refine ⟨l0, r, ?_, h3, h4, Or.inr ⟨h1, h2⟩⟩
    show addP l (X.m, X.c) = _
    rw [h2, hX, ← h3, addP_next]
theorem look_good (s : Bs) (d : Int) (a n m : Nat) (he : (lookR s d a n m).1.e = 0) : n < 128 ∧ m < 2048 ∧ (fieldR d (s.drop a)).2.2.2 = 0 ∧ (fieldR d (s.drop a)).1.length ≤ 4096 ∧ lookR s d a n m = (⟨m, ofBs (fieldR d (s.drop a)).1, (fieldR d (s.drop a)).2.2.1, a, 0⟩, a + (fieldR d (s.drop a)).2.1) := by
  unfold lookR at he ⊢
  split
  · rename_i h1; rw [if_pos h1] at he; cases he
  · rename_i h1
    rw [if_neg h1] at he
    split
    · rename_i h2
      rw [if_pos h2] at he
      split
      · rename_i h3; rw [if_pos h3] at he; cases he
      · rename_i h3
        exact ⟨by omega, by omega, h2, by omega, rfl⟩
    · rename_i h2
      rw [if_neg h2] at he
      exact absurd he h2
theorem rowOk_snoc {r : List ByteArray} {x : ByteArray} (h : ∀ y ∈ r, y.size ≤ 4096) (hl : r.length < 128) (hx : x.size ≤ 4096) : RowOk (r ++ [x]) :=
  ⟨by simp, by simp; omega, fun y hy => by
    rcases List.mem_append.1 hy with hy | hy
    · exact h y hy
    · rw [List.mem_singleton.1 hy]; exact hx⟩
theorem its_valid (s : Bs) (d : Int) : ∀ (k a n m : Nat) (l : List (List ByteArray)), (∀ i ∈ itsF s d k a n m, i.e = 0) → a ≤ s.length → AtState l n m → (∀ r ∈ l, RowOk r) → l.length ≤ 2048 →
    (∀ r ∈ (itsF s d k a n m).foldl addIt l, RowOk r) ∧ ((itsF s d k a n m).foldl addIt l).length ≤ 2048 ∧ costL d ((itsF s d k a n m).foldl addIt l) ≤ costL d l + (s.length - a) + 1
  | 0, a, n, m, l, _, ha, hs, hr, hl => ⟨hr, hl, by show costL d l ≤ _; omega⟩
  | k + 1, a, n, m, l, h, ha, hs, hr, hl => by
    rw [itsF] at h ⊢
    split
    · rename_i hgo
      rw [if_pos hgo] at h
      by_cases he : (lookR s d a n m).1.e = 0
      · rw [if_pos he] at h ⊢
        obtain ⟨b1, b2, b3, b4, b5⟩ := look_good s d a n m he
        obtain ⟨l0, r, c1, c2, c3, c4⟩ := addIt_state l n m (lookR s d a n m).1 (lookR_m s d a n m) hs
        have hc := field_cost d (s.drop a) b3
        obtain ⟨g1, g2⟩ := field_step d (s.drop a) b3
        rw [List.length_drop] at g1 g2
        rw [b5] at h c1 ⊢
        dsimp only at h c1 ⊢
        have hl0 : ∀ q ∈ l0, RowOk q := by
          rcases c4 with ⟨_, rfl, _⟩ | ⟨_, rfl⟩
          · exact hr
          · exact fun q hq => hr q (by simp [hq])
        have hrr : ∀ y ∈ r, y.size ≤ 4096 := by
          rcases c4 with ⟨_, _, rfl⟩ | ⟨_, rfl⟩
          · simp
          · exact (hr r (by simp)).2.2
        have hok : ∀ q ∈ l0 ++ [r ++ [ofBs (fieldR d (s.drop a)).1]], RowOk q := by
          intro q hq
          rcases List.mem_append.1 hq with hq | hq
          · exact hl0 q hq
          · rw [List.mem_singleton.1 hq]
            exact rowOk_snoc hrr (by omega) (by rw [size_ofBs]; exact b4)
        have hcost : costL d (l0 ++ [r ++ [ofBs (fieldR d (s.drop a)).1]]) = costL d l + ((put (fieldR d (s.drop a)).1 d).length + 1) := by
          rcases c4 with ⟨_, rfl, rfl⟩ | ⟨_, rfl⟩
          · rw [costL_append]
            simp only [costL, costR, List.nil_append, toBs_ofBs]; try omega
          · rw [costL_append, costL_append]
            simp only [costL, costR_snoc, toBs_ofBs]; omega
        by_cases hk1 : (fieldR d (s.drop a)).2.2.1 = 1
        · rw [if_pos hk1] at h ⊢
          rw [if_neg (by omega)] at hc
          have ih := its_valid s d k (a + (fieldR d (s.drop a)).2.1) (n + 1) m (l0 ++ [r ++ [ofBs (fieldR d (s.drop a)).1]]) (fun i hi => h i (List.mem_cons_of_mem _ hi)) (by omega)
            (Or.inr ⟨by omega, l0, _, rfl, c2, by simp [c3]⟩) hok (by simp; omega)
          rw [List.foldl_cons, c1]
          refine ⟨ih.1, ih.2.1, ?_⟩
          have := ih.2.2
          omega
        · rw [if_neg hk1] at h ⊢
          by_cases hk3 : (fieldR d (s.drop a)).2.2.1 = 3
          · have hend : a + (fieldR d (s.drop a)).2.1 = s.length := by
              rcases g2 with ⟨_, g⟩ | ⟨g, _⟩
              · omega
              · exact absurd hk3 g
            rw [hend, itsF_end, List.foldl_cons, c1]
            rw [if_pos hk3] at hc
            refine ⟨hok, by simp; omega, ?_⟩
            show costL d (l0 ++ [r ++ [ofBs (fieldR d (s.drop a)).1]]) ≤ _
            omega
          · rw [if_neg hk3] at hc
            have ih := its_valid s d k (a + (fieldR d (s.drop a)).2.1) 0 (m + 1) (l0 ++ [r ++ [ofBs (fieldR d (s.drop a)).1]]) (fun i hi => h i (List.mem_cons_of_mem _ hi)) (by omega)
              (Or.inl ⟨rfl, by simp [c2]⟩) hok (by simp; omega)
            rw [List.foldl_cons, c1]
            refine ⟨ih.1, ih.2.1, ?_⟩
            have := ih.2.2
            omega
      · rw [if_neg he] at h
        exact absurd (h _ (by simp)) he
    · exact ⟨hr, hl, by show costL d l ≤ _; omega⟩
theorem look_pl (s : Bs) (d : Int) (a n m : Nat) (ha : a ≤ s.length) : (lookR s d a n m).1.pl ≤ s.length := by
  unfold lookR
  split
  · exact ha
  · split
    · split <;> exact ha
    · rename_i h
      have := (fieldR_bad d (s.drop a) h).2.2
      rw [List.length_drop] at this
      dsimp only
      omega
theorem its_pl (s : Bs) (d : Int) : ∀ (k a n m : Nat), a ≤ s.length → ∀ i ∈ itsF s d k a n m, i.pl ≤ s.length
  | 0, _, _, _, _ => by simp [itsF]
  | k + 1, a, n, m, ha => by
    rw [itsF]
    split
    · by_cases he : (lookR s d a n m).1.e = 0
      · rw [if_pos he]
        obtain ⟨b1, b2, b3, b4, b5⟩ := look_good s d a n m he
        have hb : (lookR s d a n m).2 ≤ s.length := by
          rw [b5]
          have := (field_step d (s.drop a) b3).1
          rw [List.length_drop] at this
          dsimp only
          omega
        split
        · intro i hi
          rcases List.mem_cons.1 hi with rfl | hi
          · exact look_pl s d a n m ha
          · exact its_pl s d k _ _ _ hb i hi
        · intro i hi
          rcases List.mem_cons.1 hi with rfl | hi
          · exact look_pl s d a n m ha
          · exact its_pl s d k _ _ _ hb i hi
      · rw [if_neg he]
        intro i hi
        rw [List.mem_singleton.1 hi]
        exact look_pl s d a n m ha
    · simp
/-- What was parsed well: records that can be printed, and they are no longer then. -/
theorem parse_valid (s : Bs) (d : Int) (l : List (List ByteArray)) (p : Int) (h : parseF s d = (l, p, 0)) : goodI d = true ∧ p = 0 ∧ (∀ r ∈ l, RowOk r) ∧ l.length ≤ 2048 ∧ costL d l ≤ s.length + 1 := by
  unfold parseF at h
  split at h
  · rename_i hg
    split at h
    · rename_i x hx
      have h1 := List.find?_some hx
      simp only [Prod.mk.injEq] at h
      obtain ⟨_, _, h3⟩ := h
      simp only [bne_iff_ne, ne_eq] at h1
      exact absurd (by omega) h1
    · rename_i hx
      simp only [Prod.mk.injEq] at h
      obtain ⟨rfl, rfl, _⟩ := h
      have h0 : ∀ i ∈ its s d, i.e = 0 := fun i hi => by
        have := List.find?_eq_none.1 hx i hi
        simpa using this
      have := its_valid s d (s.length + 2) 0 0 0 [] h0 (Nat.zero_le _) (Or.inl ⟨rfl, rfl⟩) (by simp) (by simp)
      refine ⟨hg, rfl, this.1, this.2.1, ?_⟩
      have := this.2.2
      rw [show costL d [] = 0 from rfl] at this
      show costL d (rowsOf (its s d)) ≤ _
      unfold rowsOf its
      omega
  · simp at h
/-- Where a fault lies. -/
theorem parse_fault (s : Bs) (d : Int) (l : List (List ByteArray)) (p e : Int) (h : parseF s d = (l, p, e)) (he : e ≠ 0) : l = [] ∧ 0 ≤ p ∧ p ≤ s.length := by
  unfold parseF at h
  split at h
  · split at h
    · rename_i x hx
      simp only [Prod.mk.injEq] at h
      obtain ⟨rfl, rfl, _⟩ := h
      have := its_pl s d _ 0 0 0 (Nat.zero_le _) x (List.mem_of_find?_eq_some hx)
      exact ⟨rfl, by omega, by omega⟩
    · simp only [Prod.mk.injEq] at h
      exact absurd h.2.2.symm he
  · simp only [Prod.mk.injEq] at h
    obtain ⟨rfl, rfl, _⟩ := h
    exact ⟨rfl, by omega, by omega⟩
end Go.Proofs.Ytggodagdfldndaa

namespace Go.Proofs.Ytggodagdfldndaa
def Within (l : List (List ByteArray)) (B : Nat) : Prop := l.length ≤ B ∧ ∀ i, (l.getD i []).length ≤ B
theorem addIt_within (l : List (List ByteArray)) (x : It) (B : Nat) (h : Within l B) : Within (addIt l x) (B + 1) := by
  obtain ⟨h1, h2⟩ := h
  unfold addIt
  split
  · refine ⟨by simp; omega, fun i => ?_⟩
    rw [List.getD_eq_getElem?_getD, List.getElem?_append]
    split
    · have := h2 i
      rw [List.getD_eq_getElem?_getD] at this
      omega
    · rcases Nat.eq_zero_or_pos (i - l.length) with e | e
      · rw [e]; simp
      · rw [List.getElem?_eq_none (by simp; omega)]; simp
  · refine ⟨by simp; omega, fun i => ?_⟩
    rw [List.getD_eq_getElem?_getD, List.getElem?_set]
    split
    · rename_i e
      split
      · have := h2 x.m
        simp
        rw [List.getD_eq_getElem?_getD] at this
        exact this
      · simp
    · have := h2 i
      rw [List.getD_eq_getElem?_getD] at this
      omega
theorem fold_within : ∀ (xs : List It) (l : List (List ByteArray)) (B : Nat), Within l B → Within (xs.foldl addIt l) (B + xs.length)
  | [], _, _, h => h
  | x :: xs, l, B, h => by
    have := fold_within xs (addIt l x) (B + 1) (addIt_within l x B h)
    rw [List.foldl_cons, List.length_cons, show B + (xs.length + 1) = B + 1 + xs.length by omega]
    exact this
theorem rowsOf_within (xs : List It) : Within (rowsOf xs) xs.length := by
  have := fold_within xs [] 0 ⟨Nat.le_refl _, fun i => by simp⟩
  rw [Nat.zero_add] at this
  exact this
theorem itsF_length (s : Bs) (d : Int) : ∀ (k a n m : Nat), (itsF s d k a n m).length ≤ k
  | 0, _, _, _ => Nat.zero_le _
  | k + 1, a, n, m => by
    rw [itsF]
    split
    · split
      · split
        · have := itsF_length s d k (lookR s d a n m).2 (n + 1) m
          simp only [List.length_cons]; omega
        · have := itsF_length s d k (lookR s d a n m).2 0 (m + 1)
          simp only [List.length_cons]; omega
      · simp
    · simp
theorem next_within (s : Bs) (d : Int) (pre : List It) (x : It) (h : NextIt (its s d) pre x) : Within (rowsOf pre) (s.length + 2) := by
  obtain ⟨rest, h⟩ := h
  have h1 := itsF_length s d (s.length + 2) 0 0 0
  unfold its at h
  rw [h, List.length_append] at h1
  obtain ⟨g1, g2⟩ := rowsOf_within pre
  exact ⟨by omega, fun i => by have := g2 i; omega⟩
theorem rowsOf_new (pre : List It) (x : It) (h : x.m = (rowsOf pre).length) : rowsOf (pre ++ [x]) = (rowsOf pre ++ [[]]).set x.m ((rowsOf pre ++ [[]]).getD x.m [] ++ [x.c]) := by
  rw [rowsOf_snoc]
  unfold addIt
  rw [if_pos h, h]
  simp
theorem rowsOf_more (pre : List It) (x : It) (h : x.m ≠ (rowsOf pre).length) : rowsOf (pre ++ [x]) = (rowsOf pre).set x.m ((rowsOf pre).getD x.m [] ++ [x.c]) := by
  rw [rowsOf_snoc]
  unfold addIt
  rw [if_neg h]
theorem parseF_stop (s : Bs) (d : Int) (hg : goodI d = true) (pre : List It) (x : It) (rest : List It) (h : its s d = pre ++ x :: rest) (h0 : ∀ i ∈ pre, i.e = 0) (hx : x.e ≠ 0) : parseF s d = ([], (x.pl : Int), (x.e : Int)) := by
  have e : (its s d).find? (fun x => x.e != 0) = some x := by
    rw [h, List.find?_append, List.find?_eq_none.2 (fun y hy => by rw [h0 y hy]; decide), List.find?_cons_of_pos (by simpa using hx)]
    rfl
  unfold parseF
  rw [if_pos hg, e]
end Go.Proofs.Ytggodagdfldndaa

namespace Go.Proofs.Ytggodagdfldndaa
open Go Go.RowKit Go.Proofs.YtggodagdfldndaaW.PrintWords Go.Proofs.YtggodagdfldndaaW.PrintLast
variable {P : Program} {ops : Array Oper} {Q : Exit → Act → World → Prop}
def noDefer (o : Oper) : Bool := match o.op with | .defer _ => false | _ => true
theorem noDefer_ne {o : Oper} (h : noDefer o = true) (c : Go.Call) : o.op ≠ .defer c := by
  intro e
  unfold noDefer at h
  rw [e] at h; cases h
theorem rowsIn_round {row : String} {args : Array Value} {w : World} {R : Value → World → Prop} (l n : Nat) (h : Rows P row args w R) : RowsIn (Fence.wide.inRound l) n P row args w R := fun c cs _ =>
  let ⟨v, w', r, s⟩ := h c cs
  ⟨v, w', r, stepsIn_wide.2 s⟩
theorem operIn_round {o : Oper} {a : Act} {w : World} {next next' : Act → World → Prop} (hd : noDefer o = true) (l n : Nat) (hn : ∀ a w, next a w → next' a w) (h : o.wp P a w next Q) : o.wpIn (Fence.wide.inRound l) n P a w next' Q := by
  refine ⟨fun _ _ => trivial, ?_⟩
  rw [Oper.semAt_eq _ _ _ (noDefer_ne hd)]
  unfold Oper.wp at h
  generalize (execOp a.eval o).run P w = r at h ⊢
  cases r with
  | ok x w' =>
    cases x
    case value v => exact hn _ _ h
    case skip => exact hn _ _ h
    case defer d => exact hn _ _ h
    case enter f args =>
      refine ⟨fun hh => (by cases hh), CallsIn.inRound l (callsIn_wide.2 ?_)⟩
      refine Calls.mono (h : Calls P f args w' _) ?_
      rintro e w2 he
      cases e
      case returned v => exact hn _ _ he
      case panicked ch => exact he
      case outgrown => exact he
    case row r ar => exact ⟨fun hh => (by cases hh), rowsIn_round l _ (Rows.mono (h : Rows P r ar w' _) (fun v w2 he => hn _ _ he))⟩
    all_goals exact (h : False).elim
  | halt x w' =>
    cases x <;> first | exact h | exact (h : False).elim
theorem wpAnyIn_round {md : Region.Mode} (l n : Nat) (hd : ops.all noDefer = true) (hQ : ¬ LetsOut Q) : ∀ (fuel : Nat) (listed : Array Bool) (a : Act) (w : World), wpAny P md ops Q fuel listed a w → wpAnyIn (Fence.wide.inRound l) n P md ops Q fuel listed a w
  | 0, _, _, _, h => h
  | fuel + 1, listed, a, w, h => ⟨h.1, fun i hi => by
      have h2 := h.2 i hi
      unfold wpOp at h2
      unfold wpOpIn
      split
      · rename_i e; simp only [e] at h2; exact wpAnyIn_round l n hd hQ fuel _ _ _ h2
      · rename_i o e
        simp only [e] at h2
        split
        · rename_i hw
          simp only [hw, if_true] at h2
          have hno : noDefer o = true := by
            rw [Array.all_eq_true] at hd
            obtain ⟨hlt, rfl⟩ := Array.getElem?_eq_some_iff.1 e
            exact hd i hlt
          rcases h2 with h2 | h2
          · exact operIn_round hno l n (fun a w hh => wpAnyIn_round l n hd hQ fuel _ a w hh) h2
          · exact absurd h2.2 hQ
        · rename_i hw
          simp only [hw] at h2
          exact ⟨fun _ _ => trivial, wpAnyIn_round l n hd hQ fuel _ _ _ h2⟩⟩
theorem wpListIn_round (l n : Nat) (hQ : ¬ LetsOut Q) : ∀ (os : List Oper) (a : Act) (w : World), os.all noDefer = true → wpList P ops Q os a w → wpListIn (Fence.wide.inRound l) n P ops Q os a w
  | [], _, _, _, h => h
  | o :: rest, a, w, hd, h => by
    simp only [List.all_cons, Bool.and_eq_true] at hd
    unfold wpList at h
    unfold wpListIn
    split
    · rename_i hw
      rw [if_pos hw] at h
      rcases h with h | h
      · exact operIn_round hd.1 l n (fun a w hh => wpListIn_round l n hQ rest a w hd.2 hh) h
      · exact absurd h.2 hQ
    · rename_i hw
      rw [if_neg hw] at h
      exact ⟨fun _ _ => trivial, wpListIn_round l n hQ rest _ _ hd.2 h⟩
/-- A plain region. -/
theorem wpIn_region_round {id l n : Nat} {os : List Oper} {a : Act} {w : World} (hd : os.all noDefer = true) (hQ : ¬ LetsOut Q) (h : wpList P os.toArray Q os a w) : (Code.region id os.toArray false).wpIn (Fence.wide.inRound l) n P Q a w :=
  wpIn_region_lit (wpListIn_round l n hQ os a w hd h)
/-- A region that draws its order: the print's first step. -/
theorem startIn_ {S : World → Prop} {ds : List Nat} {id n l m : Nat} {a : Act} {w : World} (b : Array Bool) (hd : ops.all noDefer = true) (hQ : ¬ LetsOut Q) (hm : P.follows .mixedOrders = true) (hn : ops.size = n) (hl : Array.replicate n false = b) (hS : S w.drew)
    (h : S w.drew → wpAnyLast P .any ops Q S ds n b a w.drew) : (Code.region id ops true).wpIn (Fence.wide.inRound l) m P Q a w := by
  subst hn
  subst hl
  exact wpIn_region_any hm (wpAnyIn_round l m hd hQ _ _ _ _ (wpAny_of_last _ _ _ _ (h hS)))
end Go.Proofs.Ytggodagdfldndaa

namespace Go.Proofs.Ytggodagdfldndaa
open Go Go.RowKit Go.Proofs.YtggodagdfldndaaW.PrintWords Go.Proofs.YtggodagdfldndaaW.PrintLast
theorem sGrown {α : Type} {d : Kd α} {e base : Nat} {v : Value} {xs : List α} {W W' : World} {row : Option Nat} (h : Kd.S d e W base (fun _ => True) v xs) (hg : W.grownBy W' row) (hr : ∀ r, row = some r → ∃ o : Obj, W.heap[r]? = some o ∧ o.isCells = false) : Kd.S d e W' base (fun _ => True) v xs :=
  Kd.S_mono (Kd.S_grown (Kd.S_bound h) hg (fun k hk e => by
    obtain ⟨_, _, _, q, _, cells, hc⟩ := hk
    obtain ⟨o, ho, hn⟩ := hr k e.symm
    rw [hc] at ho
    rw [← Option.some.inj ho] at hn
    cases hn)) (fun _ _ => trivial)
theorem sElder {α : Type} {d : Kd α} {e base : Nat} {v : Value} {xs : List α} {W : World} (h : Kd.S d e W base (fun _ => True) v xs) {p : Addr} (hp : p.block < base) (u : Value) : Kd.S d e (W.setCell p u) base (fun _ => True) v xs :=
  Kd.S_mono (Kd.S_far (Kd.S_bound h) (fun k hk e => by have := hk.2.1; omega) u) (fun _ _ => trivial)
/-- Inner row i: it is appended to and put back. -/
theorem row_open {base g n cap : Nat} {W : World} {xs : List (List ByteArray)} (hS : Kd.S (Kd.slice 9 Kd.string) 38 W base (fun _ => True) (.slice (some ⟨g, 0, none⟩) n cap) xs) (i : Nat) (hi : i < n) :
    ∃ vi, W.cell? ⟨g, i, none⟩ = some vi ∧ W.frozen? ⟨g, i, none⟩ = false ∧ base ≤ g ∧ g < W.heap.size ∧ (∀ k, vi.ownBlock = some k → k ≠ g ∧ base ≤ k ∧ k < W.heap.size ∧ ∃ cells, W.heap[k]? = some (.cells cells 9 (0, 0))) ∧ (∃ cells, W.heap[g]? = some (.cells cells 38 (0, 0))) ∧ ∃ ok : Nat → Prop, (∀ k, W.heap.size ≤ k → ok k) ∧ Kd.string.R 9 W base ok vi (xs.getD i []) ∧
      ∀ (w1 : World) (v1 : Value) (y : List ByteArray), Kd.string.R 9 w1 base ok v1 y → W.grownBy w1 vi.ownBlock →
        Kd.S (Kd.slice 9 Kd.string) 38 (w1.setCell ⟨g, i, none⟩ v1) base (fun _ => True) (.slice (some ⟨g, 0, none⟩) n cap) (xs.set i y) ∧ w1.grownBy (w1.setCell ⟨g, i, none⟩ v1) (some g) := by
  have hgo : (Value.slice (some ⟨g, 0, none⟩) n cap).ownBlock = some g := by simp [Value.ownBlock]
  have hlt := Kd.S_lt hS g hgo
  have hS2 : Kd.S (Kd.slice 9 Kd.string) 38 W base (fun k => True ∧ ¬ (W.heap.size ≤ k)) (.slice (some ⟨g, 0, none⟩) n cap) xs := Kd.S_mono (Kd.S_bound hS) (fun k hk => ⟨trivial, by have := hk.2.2.1; omega⟩)
  obtain ⟨oki, c, hcl, ⟨vi, rfl, hR⟩, hcc, hfr, hoki, hH⟩ := Kd.S_elem hS2 [] (i : Int) (by omega) (by omega)
  have h0 := hcc 0 vi rfl
  have hf0 := hfr 0
  simp only [Int.toNat_natCast] at h0 hf0 hR
  have e1 : i * (Kd.slice 9 Kd.string).sz + 0 = i := by show i * 1 + 0 = i; omega
  rw [e1] at h0 hf0
  refine ⟨vi, h0, hf0, Kd.S_base hS g hgo, hlt, fun k hk => ⟨(hoki k (hR.1 k hk)).2, Kd.R_base hR k hk, Kd.R_lt hR k hk, Kd.R_typed hR k hk⟩, Kd.S_typed hS g hgo, fun k => oki k ∨ W.heap.size ≤ k, fun k hk => Or.inr hk, Kd.R_mono hR (fun _ hk => Or.inl hk), fun w1 v1 y hy hg => ?_⟩
  have hH1 := Kd.H_grown hH hg (fun k hk => hR.1 k hk)
  have := Kd.S_seg (okg := fun k => W.heap.size ≤ k) hH1 (by omega) (by omega) (seg := [v1]) (j := 0) (Nat.le_refl 1) (x' := y) (okp := fun k => oki k ∨ W.heap.size ≤ k) ⟨v1, rfl, hy⟩ (fun _ hk => hk) (fun k hk => ⟨trivial, by omega⟩)
  simp only [Int.toNat_natCast] at this
  rw [e1] at this
  exact this
theorem cellFar {W : World} {k j g i : Nat} {u v : Value} (h : W.cell? ⟨k, j, none⟩ = some u) (hne : g ≠ k) : (W.setCell ⟨g, i, none⟩ v).cell? ⟨k, j, none⟩ = some u :=
  (World.cell?_setCell_other _ _ _ _ (fun e => hne (congrArg Addr.block e))).trans h
theorem boxedOwn {W W' : World} {row : Option Nat} {B : Nat} {t : TypeId} {v : Value} (h : Boxed W B t v) (hg : W.grownBy W' row) (hr : ∀ r, row = some r → ∃ o : Obj, W.heap[r]? = some o ∧ o.isCells = false) : Boxed W' B t v := (grownBy_keeps_cells hg hr h rfl).trans h
theorem boxedFar {W : World} {B : Nat} {t : TypeId} {v : Value} (h : Boxed W B t v) {p : Addr} (hne : B ≠ p.block) (u : Value) : Boxed (W.setCell p u) B t v := (Below.heap_setCell W p u B hne).trans h
theorem cellAlloc {W : World} {a : Addr} {v : Value} (h : W.cell? a = some v) (o : Obj) : (W.alloc o).cell? a = some v := (World.cell?_alloc_lt _ _ _ (World.block_lt_of_cell? W _ h)).trans h
theorem cellGrown {W w1 : World} {row : Option Nat} {k j : Nat} {u : Value} (h : W.cell? ⟨k, j, none⟩ = some u) (hg : W.grownBy w1 row) (hne : some k ≠ row) : w1.cell? ⟨k, j, none⟩ = some u :=
  (World.cell?_of_block (hg.block k (World.block_lt_of_cell? W _ h) hne)).trans h
theorem frozenGrown {W w1 : World} {row : Option Nat} {k j : Nat} (hk : k < W.heap.size) (h : W.frozen? ⟨k, j, none⟩ = false) (hg : W.grownBy w1 row) (hne : some k ≠ row) : w1.frozen? ⟨k, j, none⟩ = false :=
  (World.frozen?_of_block (hg.block k hk hne)).trans h
end Go.Proofs.Ytggodagdfldndaa

namespace Go.Proofs.Ytggodagdfldndaa.Q.L
open Go.RowKit Go.Shelf Go.Proofs.YtggodagdfldndaaW.PrintWords Go.Proofs.YtggodagdfldndaaW.PrintLast Go.Proofs.YtggodagdfldndaaW.PrintMore Go.Proofs.Ytggodagdfldndaa.Q.L.Y
attribute [local go_sem] Oper.semAt_some
/-- csv.Parse, as_ a plain function. -/
def csv_Parse.f (a0 : ByteArray) (a1 : Int) : Option (List (List ByteArray) × Int × Int) := if a0.size ≤ 1048576 then some (parseF (toBs a0) a1) else none
set_option maxHeartbeats 1000000 in
/-- Three results that lie in cells of plain types. -/
theorem results_cells (W : World) (tmps : Array Value) (g1 g2 g3 : Nat) (v1 v2 v3 : Value) (h1 : tmps.getD 4 undef = .pointer (some ⟨g1, 0, none⟩)) (h2 : tmps.getD 5 undef = .pointer (some ⟨g2, 0, none⟩)) (h3 : tmps.getD 6 undef = .pointer (some ⟨g3, 0, none⟩))
    (c1 : W.cell? ⟨g1, 0, none⟩ = some v1) (c2 : W.cell? ⟨g2, 0, none⟩ = some v2) (c3 : W.cell? ⟨g3, 0, none⟩ = some v3) : (results Try.f40 tmps).run Try.prog W = .ok (.tuple #[v1, v2, v3]) W := by
  have a1 := Try.isAgg41
  have a2 := Try.isAgg3
  have a3 := Try.isAgg28
  rw [Array.getD_eq_getD_getElem?] at h1 h2 h3
  unfold results
  simp [Try.f40, asAddr, h1, h2, h3, loadVar, go_sem, c1, c2, c3, a1, a2, a3]
set_option maxHeartbeats 4000000 in
set_option maxRecDepth 100000 in
theorem parse_bad (s : ByteArray) (d : Int) (w : World) (hg : goodI d = false) :
    Calls Try.prog 40 #[.string s, .int .u8 d] w fun e w' => ∃ v0_ : Value, e = .returned (.tuple #[v0_, .int .i64 0, .int .i64 2]) ∧ Kd.S (Kd.slice 9 Kd.string) 38 w' w.heap.size (fun k_ => True) v0_ [] ∧ Below w.heap.size w w' := by
  have Hg := Lib.hid (show quote_Good.f d = some false by rw [quote_Good_f, hg])
  clear hg
  go_enter Try.func40, Try.ntmps40
  go_wp2_with fail
  refine (quote_Good.calls d false _ Hg.out).mono ?_
  rintro e w' ⟨rfl, ⟨nd, rfl⟩⟩
  go_wp2
  refine bodyPost_ret (results_cells _ _ w.heap.size (w.heap.size + 1) (w.heap.size + 1 + 1) (.slice none 0 0) (.int .i64 0) (.int .i64 2) rfl rfl rfl ?_ ?_ ?_) rfl ?_
  case refine_4 =>
    refine ⟨_, rfl, Kd.S_nil _ _ _ _ _, ?_⟩
    have h1 : Below w.heap.size w (((w.alloc (Obj.cells #[Value.slice none 0 0] 41)).alloc (Obj.cells #[Value.int IntKind.i64 0] 3)).alloc (Obj.cells #[Value.int IntKind.i64 0] 28)) := (((Below.refl _ w).alloc (Nat.le_refl _) _).alloc (by simp) _).alloc (by simp; omega) _
    have h2 := pw_below_drewN h1 nd
    exact ((h2.setCell (by simp) _).setCell (by simp) _).setCell (by simp; omega) _
  case refine_3 => exact World.cell?_setCell_same _ _ _ (u := .int .i64 0) (by simp [go_sem])
  all_goals (simp [go_sem])
  · exact World.cell?_setCell_same _ _ _ (u := .slice none 0 0) (by simp [go_sem])
/-- What has been parsed so far: pre's fields; the results' cells are as_ they were made. -/
def PInv (g0 : Nat) (s : ByteArray) (d : Int) (w : World) (pre : List It) (W : World) : Prop :=
  (∃ v, Boxed W (g0 + 1 + 1 + 1) 41 v ∧ Kd.S (Kd.slice 9 Kd.string) 38 W (g0 + 6) (fun _ => True) v (rowsOf pre)) ∧
  Boxed W g0 41 (.slice none 0 0) ∧ Boxed W (g0 + 1) 3 (.int .i64 0) ∧ Boxed W (g0 + 1 + 1) 28 (.int .i64 0) ∧
  Boxed W (g0 + 1 + 1 + 1 + 1) 9 (.string s) ∧ Boxed W (g0 + 1 + 1 + 1 + 1 + 1) 5 (.int .u8 d) ∧ (∀ i ∈ pre, i.e = 0) ∧ g0 + 6 ≤ W.heap.size ∧ Below g0 w W
/-- A field that is wrong has been met. -/
def PStop (g0 : Nat) (w : World) (c : Code) (pre : List It) (W : World) : Prop :=
  c = .ret ∧ ∃ pre' x, pre = pre' ++ [x] ∧ x.e ≠ 0 ∧ (∀ i ∈ pre', i.e = 0) ∧
  Boxed W g0 41 (.slice none 0 0) ∧ Boxed W (g0 + 1) 3 (.int .i64 x.pl) ∧ Boxed W (g0 + 1 + 1) 28 (.int .i64 x.e) ∧ Below g0 w W
theorem pInv_own (g0 B : Nat) (s : ByteArray) (d : Int) (w : World) (hB : g0 ≤ B) (hw : w.heap.size = g0) : OwnFrom B (PInv g0 s d w) := by
  intro pre W W' row h hg hr
  obtain ⟨⟨v, h1, h2⟩, h3, h4, h5, h6, h7, h8, h9, h10⟩ := h
  have hr2 : ∀ r, row = some r → ∃ o : Obj, W.heap[r]? = some o ∧ o.isCells = false := fun r e => (hr r e).2
  exact ⟨⟨v, boxedOwn h1 hg hr2, sGrown h2 hg hr2⟩, boxedOwn h3 hg hr2, boxedOwn h4 hg hr2, boxedOwn h5 hg hr2, boxedOwn h6 hg hr2, boxedOwn h7 hg hr2, h8, by have := hg.size; omega,
    (ownFrom_below (β := Unit) (n₀ := g0) (B := B) (w₀ := w) (by omega) hB) () W W' row h10 hg hr⟩
theorem pStop_own (g0 B : Nat) (w : World) (hB : g0 ≤ B) (hw : w.heap.size = g0) (c : Code) : OwnFrom B (PStop g0 w c) := by
  intro pre W W' row h hg hr
  obtain ⟨h0, pre', x, h1, h2, h3, h4, h5, h6, h7⟩ := h
  have hr2 : ∀ r, row = some r → ∃ o : Obj, W.heap[r]? = some o ∧ o.isCells = false := fun r e => (hr r e).2
  exact ⟨h0, pre', x, h1, h2, h3, boxedOwn h4 hg hr2, boxedOwn h5 hg hr2, boxedOwn h6 hg hr2,
    (ownFrom_below (β := Unit) (n₀ := g0) (B := B) (w₀ := w) (by omega) hB) () W W' row h7 hg hr⟩
theorem info38 : (Try.prog.info? 38).map (fun i => (i.zero, i.size, i.bytes)) = some (some (.slice none 0 0), 1, 24) := by kernel_rfl
theorem hidOut {p : Prop} (h : Hid p) : p := h.out
/-- In a round: what stays as_ it lay at its start (W). -/
def PMid (g0 : Nat) (s : ByteArray) (d : Int) (w W W5 : World) : Prop :=
  Boxed W5 g0 41 (.slice none 0 0) ∧ Boxed W5 (g0 + 1) 3 (.int .i64 0) ∧ Boxed W5 (g0 + 1 + 1) 28 (.int .i64 0) ∧ Boxed W5 (g0 + 1 + 1 + 1 + 1) 9 (.string s) ∧ Boxed W5 (g0 + 1 + 1 + 1 + 1 + 1) 5 (.int .u8 d) ∧ g0 + 6 ≤ W5.heap.size ∧ Below g0 w W5 ∧ KeepsOthers W W5 ∧
  (∀ (k : Nat) (cs : Array Value) (fr : Nat × Nat), W.heap[k]? = some (.cells cs 80 fr) → W5.heap[k]? = some (.cells cs 80 fr))
theorem PMid.grown {g0 : Nat} {s : ByteArray} {d : Int} {w W W5 W6 : World} {row : Option Nat} (h : PMid g0 s d w W W5) (hg : W5.grownBy W6 row) (hrow : ∀ k, row = some k → (k = g0 + 1 + 1 + 1 ∨ g0 + 6 ≤ k) ∧ ∃ cells t fz, t ≠ 80 ∧ W5.heap[k]? = some (.cells cells t fz)) : PMid g0 s d w W W6 := by
  obtain ⟨h1, h2, h3, h4, h5, h6, h7, h8, h9⟩ := h
  have ne : ∀ k, k < g0 + 6 → k ≠ g0 + 1 + 1 + 1 → some k ≠ row := fun k hk h3 e => by have := (hrow k e.symm).1; omega
  refine ⟨h1.kept hg (ne _ (by omega) (by omega)), h2.kept hg (ne _ (by omega) (by omega)), h3.kept hg (ne _ (by omega) (by omega)), h4.kept hg (ne _ (by omega) (by omega)), h5.kept hg (ne _ (by omega) (by omega)), by have := hg.size; omega,
    h7.grown hg (by omega) (fun k e => by have := (hrow k e).1; omega), h8.trans (KeepsOthers.of_grownBy hg (fun j o e ho => by
      obtain ⟨_, cells, t, fz, _, hc⟩ := hrow j e
      rw [hc] at ho
      rw [← Option.some.inj ho]; rfl)), fun k cs fr e => ?_⟩
  have e5 := h9 k cs fr e
  refine (hg.block k (Array.getElem?_eq_some_iff.1 e5).1 (fun er => ?_)).trans e5
  obtain ⟨_, cells, t, fz, ht, hc⟩ := hrow k er.symm
  rw [hc] at e5
  injection e5 with e6
  injection e6 with _ e7 _
  exact ht e7
theorem PMid.start {g0 : Nat} {s : ByteArray} {d : Int} {w W : World} {pre : List It} (h : PInv g0 s d w pre W) : PMid g0 s d w W W := by
  obtain ⟨_, h3, h4, h5, h6, h7, h8, h9, h10⟩ := h
  exact ⟨h3, h4, h5, h6, h7, h9, h10, KeepsOthers.refl W, fun _ _ _ e => e⟩
theorem PMid.drew {g0 : Nat} {s : ByteArray} {d : Int} {w W W5 : World} (h : PMid g0 s d w W W5) : PMid g0 s d w W W5.drew := by
  obtain ⟨h1, h2, h3, h4, h5, h6, h7, h8, h9⟩ := h
  exact ⟨h1, h2, h3, h4, h5, h6, h7.drew, h8.trans (KeepsOthers.drew _), h9⟩
theorem PMid.kp {g0 : Nat} {s : ByteArray} {d : Int} {w W W5 : World} (h : PMid g0 s d w W W5) : KpP (g0 + 1 + 1 + 1 + 1) (g0 + 1 + 1 + 1 + 1 + 1) s d W W5 :=
  ⟨fun _ => h.2.2.2.1.cell, fun _ => h.2.2.2.2.1.cell, h.2.2.2.2.2.2.2.2⟩
set_option maxHeartbeats 4000000 in
set_option maxRecDepth 100000 in
theorem parse_walk (s : ByteArray) (d : Int) (w : World) (hs : s.size ≤ 1048576) (hg : goodI d = true) (r : List (List ByteArray) × Int × Int) (hr : parseF (toBs s) d = r) :
    Calls Try.prog 40 #[.string s, .int .u8 d] w fun e w' => ∃ v0_ : Value, e = .returned (.tuple #[v0_, .int .i64 r.2.1, .int .i64 r.2.2]) ∧ Kd.S (Kd.slice 9 Kd.string) 38 w' w.heap.size (fun k_ => True) v0_ r.1 ∧ Below w.heap.size w w' := by
  have Hg := Lib.hid (show quote_Good.f d = some true by rw [quote_Good_f, hg])
  have HG := Lib.hid hg
  have HR := Lib.hid hr
  clear hg hr
  refine (callsIn_wide (n := 12)).1 ?_
  refine callsIn_of_wp_marks Try.func40 rfl trivial ?_ rfl
  simp only [Try.ntmps40, List.size_toArray, List.length_cons, List.length_nil, Nat.reduceAdd, Nat.reduceSub, Array.replicate_succ, Array.replicate_zero, List.push_toArray, List.append_toArray, List.nil_append, List.cons_append]
  gi_wp2_with (refine ⟨trivial, ?_⟩; gi_at_call 27; refine (callsIn_wide.2 (quote_Good.calls d true _ Hg.out)).mono ?_; rintro e w' ⟨rfl, ⟨nd, rfl⟩⟩)
  refine ⟨trivial, (callsIn_wide.2 (fields_make _ _ _)).mono ?_⟩
  rintro e w' ⟨rfl, rfl⟩
  gi_wp2
  obtain ⟨W0, hW0⟩ : ∃ W0, W0 = ((((((w.alloc (Obj.cells #[Value.slice none 0 0] 41)).alloc (Obj.cells #[Value.int IntKind.i64 0] 3)).alloc (Obj.cells #[Value.int IntKind.i64 0] 28)).drewN nd).alloc (Obj.cells #[Value.slice none 0 0] 41)).alloc (.cells #[.string s] 9)).alloc (.cells #[.int .u8 d] 5) := ⟨_, rfl⟩
  rw [← hW0]
  have hinv : PInv w.heap.size s d w [] W0 := by
    rw [hW0]
    obtain ⟨W1, hW1⟩ : ∃ W1, W1 = ((w.alloc (Obj.cells #[Value.slice none 0 0] 41)).alloc (Obj.cells #[Value.int IntKind.i64 0] 3)).alloc (Obj.cells #[Value.int IntKind.i64 0] 28) := ⟨_, rfl⟩
    rw [← hW1]
    have z1 : W1.heap.size = w.heap.size + 1 + 1 + 1 := by rw [hW1]; simp
    have e0 : Boxed W1 w.heap.size 41 (.slice none 0 0) := by rw [hW1]; exact ((Boxed.new w 41 _).alloc _).alloc _
    have e1 : Boxed W1 (w.heap.size + 1) 3 (.int .i64 0) := by
      rw [hW1]
      have := (Boxed.new (w.alloc (Obj.cells #[Value.slice none 0 0] 41)) 3 (.int .i64 0)).alloc (Obj.cells #[Value.int IntKind.i64 0] 28)
      rwa [World.size_alloc] at this
    have e2 : Boxed W1 (w.heap.size + 1 + 1) 28 (.int .i64 0) := by
      rw [hW1]
      have := Boxed.new ((w.alloc (Obj.cells #[Value.slice none 0 0] 41)).alloc (Obj.cells #[Value.int IntKind.i64 0] 3)) 28 (.int .i64 0)
      rwa [World.size_alloc, World.size_alloc] at this
    have eB : Below w.heap.size w W1 := by rw [hW1]; exact (((Below.refl _ w).alloc (Nat.le_refl _) _).alloc (by simp) _).alloc (by simp; omega) _
    obtain ⟨W2, hW2⟩ : ∃ W2, W2 = W1.drewN nd := ⟨_, rfl⟩
    rw [← hW2]
    have z2 : W2.heap.size = w.heap.size + 1 + 1 + 1 := by rw [hW2]; exact z1
    have d0 : Boxed W2 w.heap.size 41 (.slice none 0 0) := by rw [hW2]; exact e0
    have d1 : Boxed W2 (w.heap.size + 1) 3 (.int .i64 0) := by rw [hW2]; exact e1
    have d2 : Boxed W2 (w.heap.size + 1 + 1) 28 (.int .i64 0) := by rw [hW2]; exact e2
    have dB : Below w.heap.size w W2 := by rw [hW2]; exact pw_below_drewN eB nd
    clear hW2 hW1
    have n3 := ((Boxed.new W2 41 (.slice none 0 0)).alloc (Obj.cells #[Value.string s] 9)).alloc (Obj.cells #[Value.int IntKind.u8 d] 5)
    have n4 := (Boxed.new (W2.alloc (Obj.cells #[Value.slice none 0 0] 41)) 9 (.string s)).alloc (Obj.cells #[Value.int IntKind.u8 d] 5)
    have n5 := Boxed.new ((W2.alloc (Obj.cells #[Value.slice none 0 0] 41)).alloc (Obj.cells #[Value.string s] 9)) 5 (.int .u8 d)
    rw [z2] at n3
    rw [World.size_alloc, z2] at n4
    rw [World.size_alloc, World.size_alloc, z2] at n5
    exact ⟨⟨_, n3, Kd.S_nil _ _ _ _ _⟩, ((d0.alloc _).alloc _).alloc _, ((d1.alloc _).alloc _).alloc _, ((d2.alloc _).alloc _).alloc _, n4, n5, by simp, by simp [z2], ((dB.alloc (by omega) _).alloc (by simp [z2]; omega) _).alloc (by simp [z2]; omega) _⟩
  have hsz : W0.heap.size = w.heap.size + 6 := by rw [hW0]; simp
  clear hW0
  obtain ⟨g0, hg0⟩ : ∃ g0, g0 = w.heap.size := ⟨_, rfl⟩
  rw [← hg0] at hinv hsz ⊢
  have HG0 := Lib.hid hg0
  clear hg0
  refine wpIn_rangeFunc_next rfl (by omega) (gf := 78) (lb := #[.pointer (some ⟨g0 + 1 + 1 + 1 + 1, 0, none⟩), .pointer (some ⟨g0 + 1 + 1 + 1 + 1 + 1, 0, none⟩)]) rfl trivial (enters_of Try.func78 (by kernel_rfl) rfl)
    (fields_stops s d hs HG.out (g0 + 1 + 1 + 1 + 1) (g0 + 1 + 1 + 1 + 1 + 1) W0 hinv.2.2.2.2.1.cell hinv.2.2.2.2.2.1.cell (by omega) (by omega))
    (fun h k => ⟨fun e => k.1 (h.1 e), fun e => k.2.1 (h.2.1 e), fun i cs fr e => k.2.2 i cs fr (h.2.2 i cs fr e)⟩) ?kb (Below.refl _ _) (fun _ => rfl)
    (PInv g0 s d w) (PStop g0 w) (pInv_own g0 _ s d w (by omega) HG0.out.symm) (fun c => pStop_own g0 _ w (by omega) HG0.out.symm c) hinv
    (fun pre x a1 W => ∃ bf, g0 + 6 ≤ bf ∧ a1 = { tmps := #[.string s, .int .u8 d, undef, undef, .pointer (some ⟨g0, 0, none⟩), .pointer (some ⟨g0 + 1, 0, none⟩), .pointer (some ⟨g0 + 1 + 1, 0, none⟩), .pointer (some ⟨g0 + 1 + 1 + 1, 0, none⟩), .int .i64 x.m, .pointer (some ⟨bf, 0, none⟩), .int .u8 d, .bool true, .bool false, .string s, .int .i64 s.size, .bool (decide (4194304 < (s.size : Int))), .string s, .int .u8 d,
        .func (.func 78) #[] #[.pointer (some ⟨g0 + 1 + 1 + 1 + 1, 0, none⟩), .pointer (some ⟨g0 + 1 + 1 + 1 + 1 + 1, 0, none⟩)], .int .i64 x.m, .agg #[.string x.c, .int .i64 x.kind, .int .i64 x.pl, .int .i64 x.e], undef, undef, undef, undef, undef, undef, undef, undef, undef, undef, undef, undef, undef, undef, undef, undef, undef, undef, undef, undef, undef, undef, undef, undef, undef, undef], defers := [] } ∧
      W.heap[bf]? = some (.cells #[.string x.c, .int .i64 x.kind, .int .i64 x.pl, .int .i64 x.e] 80 (0, 0)) ∧ PInv g0 s d w pre W ∧ NextIt (its (toBs s) d) pre x) ?hM ?assign ?body ?done ?stop
  case kb =>
    intro W l o o' hl hW ho _
    have hk : ∀ r, some l = some r → ∃ o : Obj, W.heap[r]? = some o ∧ o.isCells = false := fun r e => by cases e; exact ⟨o, hW, ho⟩
    exact ⟨fun hv => cell_kept hv (grownBy_putObj' W l o') hk, fun hv => cell_kept hv (grownBy_putObj' W l o') hk, fun i cs fr e => (grownBy_keeps_cells (grownBy_putObj' W l o') hk e rfl).trans e⟩
  case hM =>
    rintro pre x a1 u W W' row ⟨bf, h0, h1, h2, h3, h4⟩ hg hr
    exact ⟨bf, h0, h1, (grownBy_keeps_cells hg (fun r e => (hr r e).2) h2 rfl).trans h2, pInv_own g0 W0.heap.size s d w (by omega) HG0.out.symm pre W W' row h3 hg hr, h4⟩
  case assign =>
    intro l pre x W K hI hR hK
    simp only [encIt]
    have HK := Lib.hid hK
    have HI := Lib.hid hI
    have HR := Lib.hid hR
    clear hK hI hR
    gi_wp2
    have m := (PMid.start HI.out).grown (World.grownBy_alloc W (Obj.cells #[Value.string x.c, Value.int IntKind.i64 x.kind, Value.int IntKind.i64 x.pl, Value.int IntKind.i64 x.e] 80) none) (fun k e => by cases e)
    refine HK.out _ _ (KeepsOthers.alloc W _) m.kp ⟨W.heap.size, HI.out.2.2.2.2.2.2.2.1, rfl, World.alloc_heap_new W _, (pInv_own g0 W0.heap.size s d w (by omega) HG0.out.symm).alloc _ HI.out, HR.out⟩
  case body =>
    rintro l pre x a1 W ⟨bf, hbf, rfl, hb, hI, hN⟩
    obtain ⟨⟨v, h1, h2⟩, h3, h4, h5, h6, h7, h8, h9, h10⟩ := hI
    obtain ⟨A, cv, rfl⟩ := Kd.S_slice h2
    have F0 : W.cell? ⟨bf, 0, none⟩ = some (.string x.c) := by rw [Lib.cell_of_heap hb]; rfl
    have F2 : W.cell? ⟨bf, 2, none⟩ = some (.int .i64 x.pl) := by rw [Lib.cell_of_heap hb]; rfl
    have F3 : W.cell? ⟨bf, 3, none⟩ = some (.int .i64 x.e) := by rw [Lib.cell_of_heap hb]; rfl
    refine wpIn_block ?_
    refine wpIn_seq_k (fun K1 hK1 => ?_)
    have HK1 := Lib.hid hK1
    clear hK1
    refine wpIn_seq_k (fun K2 hK2 => ?_)
    have HK2 := Lib.hid hK2
    clear hK2
    by_cases he : x.e = 0
    · have he1 : ((x.e : Int) != 0) = false := bne_eq_false_iff_eq.2 (by omega)
      have c1 := h1.cell
      gi_wp2
      refine HK2.out _ _ ?_
      refine wpIn_cond_false rfl ?_
      refine wpIn_skip ?_
      refine HK1.out _ _ ?_
      refine wpIn_seq_k (fun K4 hK4 => ?_)
      have R13 : ∀ (u29 u30 u31 u32 u33 u34 : Value) (W5 : World) (g n cap : Nat) (rows : List (List ByteArray)), Boxed W5 (g0 + 1 + 1 + 1) 41 (.slice (some ⟨g, 0, none⟩) n cap) → Kd.S (Kd.slice 9 Kd.string) 38 W5 (g0 + 6) (fun _ => True) (.slice (some ⟨g, 0, none⟩) n cap) rows → x.m < n → Within rows 2000000 →
          rowsOf (pre ++ [x]) = rows.set x.m (rows.getD x.m [] ++ [x.c]) → PMid g0 s d w W W5 → K4 { tmps := #[.string s, .int .u8 d, undef, undef, .pointer (some ⟨g0, 0, none⟩), .pointer (some ⟨g0 + 1, 0, none⟩), .pointer (some ⟨g0 + 1 + 1, 0, none⟩), .pointer (some ⟨g0 + 1 + 1 + 1, 0, none⟩), .int .i64 x.m, .pointer (some ⟨bf, 0, none⟩), .int .u8 d, .bool true, .bool false, .string s, .int .i64 s.size, .bool (decide (4194304 < (s.size : Int))), .string s, .int .u8 d, .func (.func 78) #[] #[.pointer (some ⟨g0 + 1 + 1 + 1 + 1, 0, none⟩), .pointer (some ⟨g0 + 1 + 1 + 1 + 1 + 1, 0, none⟩)], .int .i64 x.m, .agg #[.string x.c, .int .i64 x.kind, .int .i64 x.pl, .int .i64 0], .pointer (some ⟨bf, 3, none⟩), .int .i64 0, .bool false, undef, undef, undef, undef, .int .i64 x.m, u29, u30, u31, u32, u33, u34, undef, undef, undef, undef, undef, undef, undef, undef, undef, undef, undef, undef], defers := [] } W5 := by
        intro u29 u30 u31 u32 u33 u34 W5 g n cap rows hbx hS hmn hwi hrows hmid
        refine hK4 _ _ ?_
        obtain ⟨vi, C1, hfz, hgb, hglt, hvi, ⟨gc, hgc⟩, okv, hokv, hRv, hback⟩ := row_open hS x.m hmn
        have C0 := hbx.cell
        have hbf5 := hmid.2.2.2.2.2.2.2.2 bf _ _ hb
        have C2 : W5.cell? ⟨bf, 0, none⟩ = some (.string x.c) := by rw [Lib.cell_of_heap hbf5]; rfl
        have n0 : some (g0 + 1 + 1 + 1) ≠ vi.ownBlock := fun e => by have := (hvi _ e.symm).2.1; omega
        have n1 : some g ≠ vi.ownBlock := fun e => (hvi _ e.symm).1 rfl
        have n2 : some bf ≠ vi.ownBlock := fun e => by
          obtain ⟨_, _, _, cells, hc⟩ := hvi _ e.symm
          rw [hc] at hbf5
          injection hbf5 with e6
          injection e6 with _ e7 _
          cases e7
        have hbd : g0 + 6 ≤ W5.drew.heap.size := hmid.2.2.2.2.2.1
        have hlv : ((rows.getD x.m []).length + 1) * 16 ≤ 140737488355328 := by have := hwi.2 x.m; omega
        have p0 : (0 : Int) ≤ (x.m : Int) := by omega
        have p1 : (x.m : Int) < (n : Int) := by omega
        refine startIn_ (n := 12) (S := fun w' => w'.cell? ⟨g0 + 1 + 1 + 1, 0, none⟩ = some (.slice (some ⟨g, 0, none⟩) n cap) ∧ w'.cell? ⟨g, x.m, none⟩ = some vi ∧ w'.cell? ⟨bf, 0, none⟩ = some (.string x.c)) (ds := [11]) #[false, false, false, false, false, false, false, false, false, false, false, false] (by kernel_rfl) (by rintro ⟨_, _, h⟩; exact h) (by kernel_rfl) rfl rfl ⟨C0, C1, C2⟩ (fun hHeld => ?_)
        refine pure_ (i := 1) (N := some 36) (v := ?_) (a' := ?_) #[false, true, false, false, false, false, false, false, false, false, false, false] rfl rfl (by kernel_rfl) (fun _ _ _ h => h) (Or.inl ⟨by rfl, ?_⟩) ?_ ?_
        rotate_left
        · intro w'
          go_simp
          with_reducible rfl
        rotate_left
        · simp only [Act.put, List.setIfInBounds_toArray, List.set_cons_zero, List.set_cons_succ, i64_w, i32_w]
          rfl
        refine pure_ (i := 3) (N := some 38) (v := ?_) (a' := ?_) #[false, true, false, true, false, false, false, false, false, false, false, false] rfl rfl (by kernel_rfl) (fun _ _ _ h => h) (Or.inl ⟨by rfl, ?_⟩) ?_ ?_
        rotate_left
        · intro w'
          go_simp
          with_reducible rfl
        rotate_left
        · simp only [Act.put, List.setIfInBounds_toArray, List.set_cons_zero, List.set_cons_succ, i64_w, i32_w]
          rfl
        refine pure_ (i := 6) (N := some 41) (v := ?_) (a' := ?_) #[false, true, false, true, false, false, true, false, false, false, false, false] rfl rfl (by kernel_rfl) (fun _ _ _ h => h) (Or.inl ⟨by rfl, ?_⟩) ?_ ?_
        rotate_left
        · intro w'
          go_simp
          with_reducible rfl
        rotate_left
        · simp only [Act.put, List.setIfInBounds_toArray, List.set_cons_zero, List.set_cons_succ, i64_w, i32_w]
          rfl
        refine take_ (i := 0) (N := some 35) (v := ?_) (a' := ?_) #[true, true, false, true, false, false, true, false, false, false, false, false] rfl rfl (by kernel_rfl) (fun _ _ _ h => h) (Or.inl ⟨by rfl, ?_⟩) hHeld ?_ ?_
        rotate_left
        · rintro w' ⟨s0, s1, s2⟩
          go_simp
          with_reducible rfl
        rotate_left
        · simp only [Act.put, List.setIfInBounds_toArray, List.set_cons_zero, List.set_cons_succ, i64_w, i32_w]
          rfl
        refine take_ (i := 2) (N := some 37) (v := ?_) (a' := ?_) #[true, true, true, true, false, false, true, false, false, false, false, false] rfl rfl (by kernel_rfl) (fun _ _ _ h => h) (Or.inl ⟨by rfl, ?_⟩) hHeld ?_ ?_
        rotate_left
        · rintro w' ⟨s0, s1, s2⟩
          go_simp
          with_reducible rfl
        rotate_left
        · simp only [Act.put, List.setIfInBounds_toArray, List.set_cons_zero, List.set_cons_succ, i64_w, i32_w]
          rfl
        refine pure_ (i := 4) (N := some 39) (v := ?_) (a' := ?_) #[true, true, true, true, true, false, true, false, false, false, false, false] rfl rfl (by kernel_rfl) (fun _ _ _ h => h) (Or.inl ⟨by rfl, ?_⟩) ?_ ?_
        rotate_left
        · intro w'
          go_simp
          with_reducible rfl
        rotate_left
        · simp only [Act.put, List.setIfInBounds_toArray, List.set_cons_zero, List.set_cons_succ, i64_w, i32_w]
          rfl
        refine take_ (i := 5) (N := some 40) (v := ?_) (a' := ?_) #[true, true, true, true, true, true, true, false, false, false, false, false] rfl rfl (by kernel_rfl) (fun _ _ _ h => h) (Or.inl ⟨by rfl, ?_⟩) hHeld ?_ ?_
        rotate_left
        · rintro w' ⟨s0, s1, s2⟩
          go_simp
          with_reducible rfl
        rotate_left
        · simp only [Act.put, List.setIfInBounds_toArray, List.set_cons_zero, List.set_cons_succ, i64_w, i32_w]
          rfl
        refine take_ (i := 7) (N := some 42) (v := ?_) (a' := ?_) #[true, true, true, true, true, true, true, true, false, false, false, false] rfl rfl (by kernel_rfl) (fun _ _ _ h => h) (Or.inl ⟨by rfl, ?_⟩) hHeld ?_ ?_
        rotate_left
        · rintro w' ⟨s0, s1, s2⟩
          go_simp
          with_reducible rfl
        rotate_left
        · simp only [Act.put, List.setIfInBounds_toArray, List.set_cons_zero, List.set_cons_succ, i64_w, i32_w]
          rfl
        refine one_ (i := 8) (N := some 43) #[true, true, true, true, true, true, true, true, true, false, false, false] rfl rfl (by kernel_rfl) (by decide) (fun K hK => ?_)
        refine value_ (w1 := ?_) (v := ?_) (by rfl) rfl ?_ ?_
        rotate_left 2
        · go_simp
          constructor
          · rfl
          · rfl
        refine hK.out _ _ ⟨cellAlloc C0 _, cellAlloc C1 _, cellAlloc C2 _⟩ (fun hHeld => ?_)
        clear hK K
        refine norm_ (a' := ?_) ?_ ?_
        rotate_left
        · show Act.put _ (some 43) _ = _
          simp only [Act.put, List.setIfInBounds_toArray, List.set_cons_zero, List.set_cons_succ, i64_w, i32_w]
          rfl
        refine one_ (i := 9) (N := some 44) #[true, true, true, true, true, true, true, true, true, true, false, false] rfl rfl (by kernel_rfl) (by decide) (fun K hK => ?_)
        refine Kd.R_append_step Kd.string (w0 := W5.drew) (W := W5.drew) (P := Try.prog) (g0 + 6) ?hw (.tmp 40) (.tmp 43) 38 9 (.string ⟨#[]⟩) 16 ?ho Try.underlying38 info9 rfl (by decide) (by omega) vi (rows.getD x.m []) x.c [.string x.c] okv (fun _ => False) ?h1 ?h2 ?aP (fun _ hk => hk.elim) ?aF ?aO ?aB ?aS ?aL ?_
        (case hw => rfl)
        (case ho => rfl)
        (case h1 => rfl)
        (case h2 => rfl)
        (case aP => exact rfl)
        (case aF => exact hokv)
        (case aO => exact Kd.R_drew hRv)
        (case aB => exact Below.refl _ _)
        (case aS => exact hbd)
        (case aL => exact hlv)
        intro v1 w1 hR1 hb1 hg1 hat1
        have hg2 : W5.grownBy w1 vi.ownBlock := ⟨hg1.os, hg1.tape, hg1.output, hg1.size, hg1.block⟩
        obtain ⟨A1, c1, hv1⟩ := Kd.R_slice hR1
        obtain ⟨ln, hln⟩ : ∃ q, q = (rows.getD x.m [] ++ [x.c]).length := ⟨_, rfl⟩
        rw [← hln] at hv1
        subst hv1
        clear hln
        refine hK.out _ _ ⟨cellGrown C0 hg2 n0, cellGrown C1 hg2 n1, cellGrown C2 hg2 n2⟩ (fun hHeld => ?_)
        clear hK K
        refine norm_ (a' := ?_) ?_ ?_
        rotate_left
        · show Act.put _ (some 44) _ = _
          simp only [Act.put, List.setIfInBounds_toArray, List.set_cons_zero, List.set_cons_succ, i64_w, i32_w]
          rfl
        refine pure_ (i := 10) (N := some 45) (v := ?_) (a' := ?_) #[true, true, true, true, true, true, true, true, true, true, true, false] rfl rfl (by kernel_rfl) (fun _ _ _ h => h) (Or.inl ⟨by rfl, ?_⟩) ?_ ?_
        rotate_left
        · intro w'
          go_simp
          with_reducible rfl
        rotate_left
        · simp only [Act.put, List.setIfInBounds_toArray, List.set_cons_zero, List.set_cons_succ, i64_w, i32_w]
          rfl
        refine last_ (i := 11) (N := none) #[true, true, true, true, true, true, true, true, true, true, true, true] rfl rfl (by kernel_rfl) (by decide) (fun K hK => ?_)
        have C1b := cellGrown C1 hg2 n1
        have Z1b := frozenGrown hglt hfz hg2 n1
        refine skip_ (w1 := ?_) (by rfl) rfl ?_ ?_
        rotate_left
        · go_simp
          rfl
        refine hK.out _ _ ?_
        clear hK K
        refine done_ (by kernel_rfl) ?_

        obtain ⟨hS2, hg3⟩ := hback w1 _ _ hR1 hg2
        have m1 := hmid.grown hg2 (fun k e => ⟨.inr (hvi k e).2.1, by
          obtain ⟨_, _, _, cells, hc⟩ := hvi k e
          exact ⟨cells, 9, (0, 0), by decide, hc⟩⟩)
        have hgc1 : w1.heap[g]? = some (.cells gc 38 (0, 0)) := (hg2.block g hglt n1).trans hgc
        have m2 := m1.grown hg3 (fun k e => by
          cases e
          exact ⟨.inr hgb, gc, 38, (0, 0), by decide, hgc1⟩)
        refine ⟨m2.2.2.2.2.2.2.2.1, m2.kp, ⟨_, (hbx.kept hg2 n0).kept hg3 (fun e => by have := Option.some.inj e; omega), ?_⟩, m2.1, m2.2.1, m2.2.2.1, m2.2.2.2.1, m2.2.2.2.2.1, ?_, m2.2.2.2.2.2.1, m2.2.2.2.2.2.2.1⟩
        · rw [hrows]; exact hS2
        · intro i hi
          rcases List.mem_append.1 hi with hi | hi
          · exact h8 i hi
          · rw [List.mem_singleton.1 hi]; exact he
      have R13 := Lib.hid R13
      clear hK4
      refine wpIn_seq_k (fun K5 hK5 => ?_)
      have HK5 := Lib.hid hK5
      clear hK5
      have hI := PMid.start (g0 := g0) (s := s) (d := d) (w := w) (W := W) (pre := pre) ⟨⟨_, h1, h2⟩, h3, h4, h5, h6, h7, h8, h9, h10⟩
      have hwin := next_within (toBs s) d pre x hN
      rw [size_toBs] at hwin
      by_cases hm : x.m = (rowsOf pre).length
      · have hm1 : ((x.m : Int) == ((rowsOf pre).length : Int)) = true := beq_iff_eq.2 (by omega)
        have Hm := Lib.hid hm
        have f1 := h1.frozen
        have HN := Lib.hid hN
        have HI := Lib.hid hI
        have HW := Lib.hid hwin
        have H2 := Lib.hid h2
        clear hm hN hI hwin h2
        gi_wp2
        refine HK5.out _ _ ?_
        refine wpIn_cond_true rfl ?_
        refine wpIn_region_round (by rfl) (by rintro ⟨_, _, h⟩; exact h) ?_
        have hbs : g0 + 6 ≤ W.heap.size := h9
        have hll : ((rowsOf pre).length + 1) * 24 ≤ 140737488355328 := by have := HW.out.1; omega
        go_wp2_with ((with_reducible refine gate_builtin (b := .append) (xs := #[.tmp 32, .tmp 33]) rfl ?_); at_builtin; refine hidOut ?_)
        refine Lib.hid ?_
        refine Kd.S_append (Kd.slice 9 Kd.string) (w0 := W) (W := W) (P := Try.prog) (g0 + 6) ?hg (.tmp 32) (.tmp 33) 41 38 (.slice none 0 0) 24 ?ho Try.underlying41 info38 rfl (by decide) (by omega) (.slice A (rowsOf pre).length cv) (rowsOf pre) [] [.slice none 0 0] (fun _ => True) (fun _ => False) ?h1 ?h2 ?aP (fun _ hk => hk.elim) ?aF ?aO ?aB ?aS ?aL ?_
        (case hg => rfl)
        (case ho => rfl)
        (case h1 => rfl)
        (case h2 => rfl)
        (case aP => exact ⟨_, rfl, Kd.R_nil _ _ _ _ _⟩)
        (case aF => exact fun _ _ => trivial)
        (case aO => exact Kd.S_mono H2.out (fun _ _ => ⟨trivial, not_false⟩))
        (case aB => exact Below.refl _ _)
        (case aS => exact hbs)
        (case aL => exact hll)
        intro v1 w1 hS1 hb1 hg1 hat1
        have n0 : some (g0 + 1 + 1 + 1) ≠ (Value.slice A (rowsOf pre).length cv).ownBlock := fun e => by have := Kd.S_base H2.out _ e.symm; omega
        have hbx1 := h1.kept hg1 n0
        have m1 := HI.out.grown hg1 (fun k e => by
          obtain ⟨cells, hc⟩ := Kd.S_typed H2.out k e
          exact ⟨.inr (Kd.S_base H2.out k e), cells, 38, (0, 0), by decide, hc⟩)
        obtain ⟨g, cap, hv1, _⟩ := Kd.S_form hS1 (by simp)
        obtain ⟨ln, hln⟩ : ∃ q, q = (rowsOf pre ++ [[]]).length := ⟨_, rfl⟩
        rw [← hln] at hv1
        subst hv1
        have hlt : x.m < ln := by rw [hln, Hm.out]; simp
        have m2 := m1.grown (grownBy_setCell' w1 (g0 + 1 + 1 + 1) (.slice (some ⟨g, 0, none⟩) ln cap)) (fun k e => by
          cases e
          exact ⟨.inl rfl, _, 41, _, by decide, hbx1⟩)
        have M2 := Lib.hid m2
        have HX := Lib.hid hbx1
        have HS := Lib.hid hS1
        have c1b := hbx1.cell
        have f1b := hbx1.frozen
        clear m1 m2 hbx1 hS1 hln
        go_wp2
        refine R13.out _ _ _ _ _ _ _ g ln cap (rowsOf pre ++ [[]]) (HX.out.set _) (sElder HS.out (by show g0 + 1 + 1 + 1 < g0 + 6; omega) _) hlt ?_ (rowsOf_new pre x Hm.out) M2.out
        obtain ⟨q1, q2⟩ := HW.out
        refine ⟨by simp; omega, fun i => ?_⟩
        have := q2 i
        rw [List.getD_eq_getElem?_getD] at this ⊢
        rw [List.getElem?_append]
        split
        · omega
        · rcases Nat.eq_zero_or_pos (i - (rowsOf pre).length) with e | e
          · rw [e]; simp
          · rw [List.getElem?_eq_none (by simp; omega)]; simp
      · have hm1 : ((x.m : Int) == ((rowsOf pre).length : Int)) = false := beq_eq_false_iff_ne.2 (by omega)
        have hlt : x.m < (rowsOf pre).length := by have := next_m (toBs s) d pre x hN; omega
        have hrw := rowsOf_more pre x hm
        obtain ⟨g, cap, hv, _⟩ := Kd.S_form h2 (by omega)
        injection hv with e1 e2 e3
        subst e1
        subst e3
        have Hw := Lib.hid hwin
        have H2 := Lib.hid h2
        have HI := Lib.hid hI
        have HR2 := Lib.hid hrw
        clear hwin h2 hI hrw
        gi_wp2
        refine HK5.out _ _ ?_
        refine wpIn_cond_false rfl ?_
        refine wpIn_skip ?_
        exact R13.out _ _ _ _ _ _ _ g _ _ (rowsOf pre) h1 H2.out hlt ⟨by have := Hw.out.1; omega, fun i => by have := Hw.out.2 i; omega⟩ HR2.out HI.out
    · have he1 : ((x.e : Int) != 0) = true := bne_iff_ne.2 (by omega)
      have c1 := h3.cell
      have c2 := h4.cell
      have c3 := h5.cell
      have f1 := h3.frozen
      have f2 := h4.frozen
      have f3 := h5.frozen
      gi_wp2
      refine HK2.out _ _ ?_
      refine wpIn_cond_true rfl ?_
      refine wpIn_seq_k (fun K3 hK3 => ?_)
      have HK3 := Lib.hid hK3
      clear hK3
      have hI := PMid.start (g0 := g0) (s := s) (d := d) (w := w) (W := W) (pre := pre) ⟨⟨_, h1, h2⟩, h3, h4, h5, h6, h7, h8, h9, h10⟩
      have n0 : g0 ≠ bf := by omega
      have n1 : g0 + 1 ≠ bf := by omega
      have n2 : g0 + 1 + 1 ≠ bf := by omega
      refine startIn_ (n := 7) (S := fun w' => w'.cell? ⟨bf, 2, none⟩ = some (.int .i64 x.pl) ∧ w'.cell? ⟨bf, 3, none⟩ = some (.int .i64 x.e)) (ds := []) #[false, false, false, false, false, false, false] (by kernel_rfl) (by rintro ⟨_, _, h⟩; exact h) (by kernel_rfl) rfl rfl ⟨F2, F3⟩ (fun hHeld => ?_)
      refine pure_ (i := 0) (N := some 24) (v := ?_) (a' := ?_) #[true, false, false, false, false, false, false] rfl rfl (by kernel_rfl) (fun _ _ _ h => h) (Or.inl ⟨by rfl, ?_⟩) ?_ ?_
      rotate_left
      · intro w'
        go_simp
        with_reducible rfl
      rotate_left
      · simp only [Act.put, List.setIfInBounds_toArray, List.set_cons_zero, List.set_cons_succ, i64_w, i32_w]
        rfl
      refine pure_ (i := 2) (N := some 26) (v := ?_) (a' := ?_) #[true, false, true, false, false, false, false] rfl rfl (by kernel_rfl) (fun _ _ _ h => h) (Or.inl ⟨by rfl, ?_⟩) ?_ ?_
      rotate_left
      · intro w'
        go_simp
        with_reducible rfl
      rotate_left
      · simp only [Act.put, List.setIfInBounds_toArray, List.set_cons_zero, List.set_cons_succ, i64_w, i32_w]
        rfl
      refine take_ (i := 1) (N := some 25) (v := ?_) (a' := ?_) #[true, true, true, false, false, false, false] rfl rfl (by kernel_rfl) (fun _ _ _ h => h) (Or.inl ⟨by rfl, ?_⟩) hHeld ?_ ?_
      rotate_left
      · rintro w' ⟨s0, s1⟩
        go_simp
        with_reducible rfl
      rotate_left
      · simp only [Act.put, List.setIfInBounds_toArray, List.set_cons_zero, List.set_cons_succ, i64_w, i32_w]
        rfl
      refine take_ (i := 3) (N := some 27) (v := ?_) (a' := ?_) #[true, true, true, true, false, false, false] rfl rfl (by kernel_rfl) (fun _ _ _ h => h) (Or.inl ⟨by rfl, ?_⟩) hHeld ?_ ?_
      rotate_left
      · rintro w' ⟨s0, s1⟩
        go_simp
        with_reducible rfl
      rotate_left
      · simp only [Act.put, List.setIfInBounds_toArray, List.set_cons_zero, List.set_cons_succ, i64_w, i32_w]
        rfl
      refine one_ (i := 4) (N := none) #[true, true, true, true, true, false, false] rfl rfl (by kernel_rfl) (by decide) (fun K hK => ?_)
      refine skip_ (w1 := ?_) (by rfl) rfl ?_ ?_
      rotate_left
      · go_simp
        rfl
      refine hK.out _ _ ⟨cellFar F2 n0, cellFar F3 n0⟩ (fun hHeld => ?_)
      clear hK K
      refine one_ (i := 5) (N := none) #[true, true, true, true, true, true, false] rfl rfl (by kernel_rfl) (by decide) (fun K hK => ?_)
      refine skip_ (w1 := ?_) (by rfl) rfl ?_ ?_
      rotate_left
      · go_simp
        rfl
      refine hK.out _ _ ⟨cellFar (cellFar F2 n0) n1, cellFar (cellFar F3 n0) n1⟩ (fun hHeld => ?_)
      clear hK K
      refine one_ (i := 6) (N := none) #[true, true, true, true, true, true, true] rfl rfl (by kernel_rfl) (by decide) (fun K hK => ?_)
      refine skip_ (w1 := ?_) (by rfl) rfl ?_ ?_
      rotate_left
      · go_simp
        rfl
      refine hK.out _ _ ⟨cellFar (cellFar (cellFar F2 n0) n1) n2, cellFar (cellFar (cellFar F3 n0) n1) n2⟩ (fun hHeld => ?_)
      clear hK K
      refine done_ (by kernel_rfl) ?_

      refine HK3.out _ _ ?_
      refine wpIn_ret ?_
      refine ⟨(((KeepsOthers.setCell _ _ _).trans (KeepsOthers.setCell _ _ _)).trans (KeepsOthers.setCell _ _ _)).trans (KeepsOthers.drew _), rfl, pre, x, rfl, he, h8, ?_, ?_, ?_, ?_⟩
      · exact boxedFar (boxedFar (h3.set _) (by show g0 ≠ g0 + 1; omega) _) (by show g0 ≠ g0 + 1 + 1; omega) _
      · exact boxedFar ((boxedFar h4 (by show g0 + 1 ≠ g0; omega) _).set _) (by show g0 + 1 ≠ g0 + 1 + 1; omega) _
      · exact (boxedFar (boxedFar h5 (by show g0 + 1 + 1 ≠ g0; omega) _) (by show g0 + 1 + 1 ≠ g0 + 1; omega) _).set _
      · exact (((h10.setCell (by show g0 ≤ g0; omega) _).setCell (by show g0 ≤ g0 + 1; omega) _).setCell (by show g0 ≤ g0 + 1 + 1; omega) _).drew
  case done =>
    rintro D xs W hD rfl hI hK
    obtain ⟨⟨v, h1, h2⟩, h3, h4, h5, h6, h7, h8, h9, h10⟩ := hI
    obtain ⟨A, cv, rfl⟩ := Kd.S_slice h2
    have c0 := h1.cell
    have c1 := h3.cell
    have c2 := h4.cell
    have c3 := h5.cell
    have f1 := h3.frozen
    have f2 := h4.frozen
    have f3 := h5.frozen
    have H2 := Lib.hid h2
    have H8 := Lib.hid h8
    have H10 := Lib.hid h10
    clear h2 h6 h7 h8 h10
    gi_wp2
    obtain ⟨W3, hW3⟩ : ∃ W3, W3 = ((W.setCell ⟨g0, 0, none⟩ (Value.slice A (rowsOf (its (toBs s) d)).length cv)).setCell ⟨g0 + 1, 0, none⟩ (Value.int IntKind.i64 0)).setCell ⟨g0 + 1 + 1, 0, none⟩ (Value.int IntKind.i64 0) := ⟨_, rfl⟩
    rw [← hW3]
    have hK3 : W3.heap[D]? = some (.deferred (some [])) := by
      rw [hW3, Below.heap_setCell _ _ _ _ (by show D ≠ g0 + 1 + 1; omega), Below.heap_setCell _ _ _ _ (by show D ≠ g0 + 1; omega), Below.heap_setCell _ _ _ _ (by show D ≠ g0; omega)]
      exact hK
    have b0 : Boxed W3 g0 41 (Value.slice A (rowsOf (its (toBs s) d)).length cv) := by
      rw [hW3]; exact boxedFar (boxedFar (h3.set _) (by show g0 ≠ g0 + 1; omega) _) (by show g0 ≠ g0 + 1 + 1; omega) _
    have b1 : Boxed W3 (g0 + 1) 3 (.int .i64 0) := by
      rw [hW3]; exact boxedFar ((boxedFar h4 (by show g0 + 1 ≠ g0; omega) _).set _) (by show g0 + 1 ≠ g0 + 1 + 1; omega) _
    have b2 : Boxed W3 (g0 + 1 + 1) 28 (.int .i64 0) := by
      rw [hW3]; exact (boxedFar (boxedFar h5 (by show g0 + 1 + 1 ≠ g0; omega) _) (by show g0 + 1 + 1 ≠ g0 + 1; omega) _).set _
    have hB3 : Below g0 w W3 := by
      rw [hW3]; exact ((H10.out.setCell (by show g0 ≤ g0; omega) _).setCell (by show g0 ≤ g0 + 1; omega) _).setCell (by show g0 ≤ g0 + 1 + 1; omega) _
    have hS3 : Kd.S (Kd.slice 9 Kd.string) 38 W3 (g0 + 6) (fun _ => True) (Value.slice A (rowsOf (its (toBs s) d)).length cv) (rowsOf (its (toBs s) d)) := by
      rw [hW3]; exact sElder (sElder (sElder H2.out (by show g0 < g0 + 6; omega) _) (by show g0 + 1 < g0 + 6; omega) _) (by show g0 + 1 + 1 < g0 + 6; omega) _
    have hr := HR.out
    rw [parseF_ok _ _ HG.out H8.out] at hr
    subst hr
    clear hW3
    have hg9 := grownBy_putObj' W3 D (.deferred none)
    have hk9 : ∀ r, some D = some r → ∃ o : Obj, W3.heap[r]? = some o ∧ o.isCells = false := fun r e => by cases e; exact ⟨_, hK3, rfl⟩
    refine ⟨by simp, .inl ⟨_, _, rfl, run_takeDeferred hK3, ?_⟩⟩
    refine ⟨_, results_cells _ _ g0 (g0 + 1) (g0 + 1 + 1) _ _ _ rfl rfl rfl (boxedOwn b0 hg9 hk9).cell (boxedOwn b1 hg9 hk9).cell (boxedOwn b2 hg9 hk9).cell, _, rfl, ?_⟩
    rw [← HG0.out]
    exact ⟨Kd.S_lower (sGrown hS3 hg9 hk9) (by omega), hB3.trans (belowK_b (w := w) (by rw [HG0.out]; exact Nat.le_refl _) W3 D _ _ (by rw [← HG0.out]; omega) hK3 rfl rfl)⟩
  case stop =>
    rintro D c pre W hD ⟨rest, hS⟩ hI hK
    obtain ⟨rfl, pre', x, rfl, h1, h2, b0, b1, b2, h6⟩ := hI
    have hr := HR.out
    rw [parseF_stop _ _ HG.out pre' x rest (by rw [hS]; simp) h2 h1] at hr
    subst hr
    have H6 := Lib.hid h6
    clear h6 h2 hS
    have B0 := Lib.hid b0
    have B1 := Lib.hid b1
    have B2 := Lib.hid b2
    clear b0 b1 b2
    gi_wp2
    have hg9 := grownBy_putObj' W D (.deferred none)
    have hk9 : ∀ r, some D = some r → ∃ o : Obj, W.heap[r]? = some o ∧ o.isCells = false := fun r e => by cases e; exact ⟨_, hK, rfl⟩
    refine ⟨by simp, .inl ⟨_, _, rfl, run_takeDeferred hK, ?_⟩⟩
    refine ⟨_, results_cells _ _ g0 (g0 + 1) (g0 + 1 + 1) _ _ _ rfl rfl rfl (boxedOwn B0.out hg9 hk9).cell (boxedOwn B1.out hg9 hk9).cell (boxedOwn B2.out hg9 hk9).cell, _, rfl, ?_⟩
    rw [← HG0.out]
    exact ⟨Kd.S_nil _ _ _ _ _, H6.out.trans (belowK_b (w := w) (by rw [HG0.out]; exact Nat.le_refl _) W D _ _ (by rw [← HG0.out]; omega) hK rfl rfl)⟩
theorem csv_Parse.calls (a0 : ByteArray) (a1 : Int) (r1 : List (List ByteArray)) (r2 r3 : Int) (w : World) (h : csv_Parse.f a0 a1 = some (r1, r2, r3)) :
    Calls Try.prog 40 #[.string a0, .int .u8 a1] w fun e w' => ∃ v0_ : Value, e = .returned (.tuple #[v0_, .int .i64 r2, .int .i64 r3]) ∧ Kd.S (Kd.slice 9 Kd.string) 38 w' w.heap.size (fun k_ => True) v0_ r1 ∧ Below w.heap.size w w' := by
  unfold csv_Parse.f at h
  split at h
  · rename_i hs
    have h := Option.some.inj h
    cases hg : goodI a1 with
    | false =>
      unfold parseF at h
      rw [hg, if_neg (by decide)] at h
      simp only [Prod.mk.injEq] at h
      obtain ⟨rfl, rfl, rfl⟩ := h
      exact parse_bad a0 a1 w hg
    | true => exact parse_walk a0 a1 w hs hg (r1, r2, r3) h
  · cases h
end Go.Proofs.Ytggodagdfldndaa.Q.L

namespace Go.Proofs.Ytggodagdfldndaa.Q.L.M
open Go.RowKit Go.Proofs.YtggodagdfldndaaW.PrintWords Go.Proofs.YtggodagdfldndaaW.PrintLast Go.Proofs.YtggodagdfldndaaW.PrintMore
attribute [local go_sem] max2_int min2_int max_two min_two max_three min_three max_four min_four   -- for this text's walks alone
set_option linter.unusedVariables false
set_option linter.unusedSimpArgs false

def errW : Option Int → Value
  | none => .nilIface
  | some c => .iface 0 (.int .i64 c)
theorem errW_none : errW none = .nilIface := rfl
theorem errW_some (c : Int) : errW (some c) = .iface 0 (.int .i64 c) := rfl

theorem info9 : (Try.prog.info? 9).map (fun i => (i.zero, i.size, i.bytes)) = some (some (.string ⟨#[]⟩), 1, 16) := by kernel_rfl
-- the values' own types

end Go.Proofs.Ytggodagdfldndaa.Q.L.M

namespace Go.Proofs.Ytggodagdfldndaa.Q.L.M
open Go.RowKit Go.Proofs.YtggodagdfldndaaW.PrintWords Go.Proofs.YtggodagdfldndaaW.PrintLast Go.Proofs.YtggodagdfldndaaW.PrintMore
attribute [local go_sem] max2_int min2_int max_two min_two max_three min_three max_four min_four   -- for this text's walks alone
set_option linter.unusedVariables false
set_option linter.unusedSimpArgs false

-- BY HAND: function 34 (lex_Field)

-- BY HAND: function 36 (lex_Break)

-- BY HAND: function 38 (lex_Write)

/-! ### tartanlaw02_works: function 33 -/
-- BY HAND: function 35 (tartanref02_Field)

-- BY HAND: function 37 (tartanref02_Break)

end Go.Proofs.Ytggodagdfldndaa.Q.L.M

namespace Go.Proofs.Ytggodagdfldndaa.Q.L.Z
open Go.RowKit Go.Proofs.YtggodagdfldndaaW.PrintWords Go.Proofs.YtggodagdfldndaaW.PrintLast Go.Proofs.YtggodagdfldndaaW.PrintMore
attribute [local go_sem] max2_int min2_int max_two min_two max_three min_three max_four min_four   -- for this text's walks alone
set_option linter.unusedVariables false
set_option linter.unusedSimpArgs false

def errW : Option Int → Value
  | none => .nilIface
  | some c => .iface 0 (.int .i64 c)
theorem errW_none : errW none = .nilIface := rfl
theorem errW_some (c : Int) : errW (some c) = .iface 0 (.int .i64 c) := rfl

theorem info9 : (Try.prog.info? 9).map (fun i => (i.zero, i.size, i.bytes)) = some (some (.string ⟨#[]⟩), 1, 16) := by kernel_rfl
theorem info38 : (Try.prog.info? 38).map (fun i => (i.zero, i.size, i.bytes)) = some (some (.slice none 0 0), 1, 24) := by kernel_rfl
-- the values' own types
def rd_L1 (xs : List (List ByteArray)) (i : Int) : (List ByteArray) := xs.getD i.toNat ([] : List ByteArray)
theorem at_L1 {w : World} {A : Option Addr} {n : Nat} {xs : List (List ByteArray)} (h : Kd.C (Kd.slice 9 Kd.string) w A n xs) (i : Int) (h0 : 0 ≤ i) (h1 : i < n) : ∃ ad A0 c0, A = some ad ∧ w.cell? (ad.add i.toNat) = some (.slice A0 (rd_L1 xs i).length c0) ∧ (rd_L1 xs i).length ≤ c0 ∧ Kd.string.C w A0 (rd_L1 xs i).length (rd_L1 xs i) := by
  obtain ⟨ad, c, e, _, hK, hc0⟩ := Kd.C_get h ([] : List ByteArray) i h0 h1
  have hc : ∀ j u, c[j]? = some u → w.cell? (ad.add (i.toNat * 1 + j)) = some u := hc0
  obtain ⟨A0, c0, rfl, l0, g0⟩ := hK
  exact ⟨ad, A0, c0, e, by have hq := hc 0 _ rfl; rwa [Nat.mul_one, Nat.add_zero] at hq, l0, g0⟩

end Go.Proofs.Ytggodagdfldndaa.Q.L.Z
