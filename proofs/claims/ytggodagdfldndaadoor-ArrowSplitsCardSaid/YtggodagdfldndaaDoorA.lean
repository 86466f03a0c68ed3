/- Go's library at this program, as printed functions want it; slices.ContainsFunc over the method 'in' of an arrow. -/
import Derived.Test.YtggodagdfldndaaDoorPlain
import Derived.Test.YtggodagdfldndaaDoorWMore
import Derived.Test.YtggodagdfldndaaDoorS
import Derived.Lib.Hide
import Derived.OwnWalkIn
import Derived.TacticsInMore
import Derived.LoopNIn
import Derived.LoopIn
namespace Go.Proofs.YtggodagdfldndaaDoor
open Go.RowKit Go.Shelf Go.Proofs.YtggodagdfldndaaDoorW.PrintWords Go.Proofs.YtggodagdfldndaaDoorW.PrintLast Go.Proofs.YtggodagdfldndaaDoorW.PrintMore
/-- bytealg.MaxLen holds a whole number. -/
def MaxOk (w : World) : Prop := ∃ m : Int, w.cell? ⟨0, 0, none⟩ = some (.int .i64 m)
theorem MaxOk.below {w W : World} (h : MaxOk w) (hb : Below w.heap.size w W) : MaxOk W := by
  obtain ⟨m, hm⟩ := h
  exact ⟨m, (hb.cell (World.block_lt_of_cell? w _ hm)).trans hm⟩
theorem MaxOk.drewN {w : World} (h : MaxOk w) (n : Nat) : MaxOk (w.drewN n) := h
theorem MaxOk.drew {w : World} (h : MaxOk w) : MaxOk w.drew := h
theorem MaxOk.drawn {w W : World} (h : MaxOk w) (hd : Drawn0 w W) : MaxOk W := h.below hd.below
namespace Q
def strings_CutSuffix.f (a0 a1 : ByteArray) : Option (ByteArray × Bool) := if a0.size ≤ 9223372036854775807 then some (ofBs (Lib.trimSuffix (toBs a0) (toBs a1)), Lib.hasSuffix (toBs a0) (toBs a1)) else none
theorem strings_CutSuffix.calls (a0 a1 : ByteArray) (r1 : ByteArray) (r2 : Bool) (w : World) (h : strings_CutSuffix.f a0 a1 = some (r1, r2)) :
    Calls Tryd.prog 23 #[.string a0, .string a1] w fun e w' => e = .returned (.tuple #[.string r1, .bool r2]) ∧ Drawn0 w w' := by
  unfold strings_CutSuffix.f at h
  split at h
  · rename_i hs
    obtain ⟨rfl, rfl⟩ := Prod.mk.inj (Option.some.inj h)
    refine (Tryd.strings_CutSuffix a0 a1 w hs).mono ?_
    rintro e w' ⟨rfl, rfl⟩
    exact ⟨rfl, Drawn0.refl _⟩
  · cases h
def strings_Trim.f (a0 a1 : ByteArray) : Option ByteArray := match toBs a1 with
  | [c] => if a0.size ≤ 9223372036854775807 ∧ c.toNat < 128 then some (ofBs (Lib.trimB (toBs a0) c)) else none
  | _ => none
theorem strings_Trim.calls (a0 a1 : ByteArray) (r : ByteArray) (w : World) (h : strings_Trim.f a0 a1 = some r) :
    Calls Tryd.prog 24 #[.string a0, .string a1] w fun e w' => e = .returned (.string r) ∧ Drawn0 w w' := by
  unfold strings_Trim.f at h
  split at h
  · rename_i c hc
    split at h
    · rename_i hs
      obtain rfl := Option.some.inj h
      have e1 : a1 = ⟨#[c]⟩ := by rw [← ofBs_toBs a1, hc]; rfl
      rw [e1]
      refine (Tryd.strings_Trim_one a0 c hs.2 w hs.1).mono ?_
      rintro e w' ⟨rfl, rfl | rfl⟩
      · exact ⟨rfl, Drawn0.refl _⟩
      · exact ⟨rfl, ⟨⟨1, rfl⟩⟩⟩
    · cases h
  · cases h
def strings_Cut.f (a0 a1 : ByteArray) : Option (ByteArray × ByteArray × Bool) := if a0.size < 4294967281 then some (ofBs (Lib.cut (toBs a0) (toBs a1)).1, ofBs (Lib.cut (toBs a0) (toBs a1)).2.1, (Lib.cut (toBs a0) (toBs a1)).2.2) else none
theorem strings_Cut.calls (a0 a1 : ByteArray) (r1 r2 : ByteArray) (r3 : Bool) (w : World) (hM : MaxOk w) (h : strings_Cut.f a0 a1 = some (r1, r2, r3)) :
    Calls Tryd.prog 17 #[.string a0, .string a1] w fun e w' => e = .returned (.tuple #[.string r1, .string r2, .bool r3]) ∧ Drawn0 w w' := by
  unfold strings_Cut.f at h
  split at h
  · rename_i hs
    have h := Option.some.inj h
    simp only [Prod.mk.injEq] at h
    obtain ⟨rfl, rfl, rfl⟩ := h
    obtain ⟨m, hm⟩ := hM
    refine (Tryd.strings_Cut a0 a1 m w hs hm).mono ?_
    rintro e w' ⟨rfl, n, rfl⟩
    exact ⟨rfl, ⟨⟨n, rfl⟩⟩⟩
  · cases h
end Q
set_option maxHeartbeats 1000000 in
set_option maxRecDepth 100000 in
theorem in21 (cell sign : ByteArray) (w : World) (hM : MaxOk w) (hs : cell.size ≤ 10000) :
    Calls Tryd.prog 21 #[.string sign, .string cell] w fun e w' => e = .returned (.bool (has (toBs sign) cell)) ∧ w' = w := by
  obtain ⟨m, hm⟩ := hM
  go_enter Tryd.func21, Tryd.ntmps21
  go_wp2_with (go_at_call 28; refine (Tryd.strings_Contains cell sign m _ (by omega) hm).mono ?_; rintro e w' ⟨rfl, rfl⟩)
  go_ret
  exact ⟨rfl, rfl⟩
set_option maxHeartbeats 4000000 in
set_option maxRecDepth 100000 in
theorem index27 (A : Option Addr) (c : Nat) (l : List ByteArray) (sign : ByteArray) (w : World) (hr : Kd.C Kd.string w A l.length l) (hM : MaxOk w) (hf : Few l) :
    Calls Tryd.prog 27 #[.slice A l.length c, .func (.func 21) #[.string sign] #[]] w fun e w' => ∃ r : Int, e = .returned (.int .i64 r) ∧ decide (0 ≤ r) = l.any (has (toBs sign)) ∧ Drawn0 w w' := by
  have HR := Lib.hid hr
  have HM := Lib.hid hM
  have HF := Lib.hid hf
  have hb := hr.2.1
  clear hr hM hf
  go_enter Tryd.func27, Tryd.ntmps27
  go_wp2
  go_loopw [8] (fun i wr => ∃ k : Nat, k ≤ l.length ∧ i = .int .i64 k ∧ Drawn0 w wr ∧ (l.take k).any (has (toBs sign)) = false) (fun i _ => l.length - (intOf i).toNat)
  case atStart => exact ⟨0, Nat.zero_le _, rfl, Drawn0.refl _, rfl⟩
  case round =>
    obtain ⟨k, hk, rfl, ⟨q, rfl⟩, hE⟩ := hrel
    have HE := Lib.hid hE
    clear hE
    rcases Nat.lt_or_ge k l.length with hlt | hge
    · have p0 : (0 : Int) ≤ (k : Int) := by omega
      have q0 : (k : Int) < (l.length : Int) := by omega
      obtain ⟨ad, rfl, hcell⟩ := Kd.at_string HR.out k p0 q0
      rw [Int.toNat_natCast] at hcell
      obtain ⟨X, hX⟩ : ∃ X, X = rdOf ByteArray.empty l (k : Int) := ⟨_, rfl⟩
      rw [← hX] at hcell
      have hX2 : X = l[k] := by rw [hX]; unfold rdOf; simp [hlt]
      clear hX
      have hX3 : X.size ≤ 10000 := by rw [hX2]; exact HF.out _ (List.getElem_mem hlt)
      have HX := Lib.hid hX2
      clear hX2
      have hs1 : (l.take (k + 1)).any (has (toBs sign)) = has (toBs sign) X := by
        rw [List.take_add_one, List.any_append, HE.out, List.getElem?_eq_getElem hlt, HX.out]; simp
      have hin := in21 X sign (w.drewN q) (MaxOk.drewN HM.out q) hX3
      cases hd : has (toBs sign) X with
      | true =>
        have hany : l.any (has (toBs sign)) = true := by
          rw [← List.take_append_drop (k + 1) l, List.any_append, hs1, hd]; rfl
        have Ha := Lib.hid hany
        rw [hd] at hin
        have HI := Lib.hid hin
        clear hs1 hd hany hin
        go_wp2_with fail
        refine HI.out.mono ?_
        rintro e w' ⟨rfl, rfl⟩
        go_wp2
        go_ret
        exact ⟨k, rfl, by rw [Ha.out, decide_eq_true (by omega)], by repeat (first | exact Drawn0.refl _ | apply Drawn0.step)⟩
      | false =>
        have Hs := Lib.hid (hs1.trans hd)
        rw [hd] at hin
        have HI := Lib.hid hin
        clear hs1 hd hin
        go_wp2_with fail
        refine HI.out.mono ?_
        rintro e w' ⟨rfl, rfl⟩
        go_wp2
        go_roundw
        case rel => exact ⟨k + 1, by omega, by go_num, by repeat (first | exact Drawn0.refl _ | apply Drawn0.step), Hs.out⟩
        case measure => simp [intOf]; omega
    · have q0 : ¬ (k : Int) < (l.length : Int) := by omega
      have Ha := Lib.hid (show l.any (has (toBs sign)) = false by have := HE.out; rwa [List.take_of_length_le (by omega)] at this)
      go_wp2
      go_ret
      exact ⟨-1, rfl, by rw [Ha.out]; rfl, by repeat (first | exact Drawn0.refl _ | apply Drawn0.step)⟩
set_option maxHeartbeats 1000000 in
set_option maxRecDepth 100000 in
theorem contains20 (A : Option Addr) (c : Nat) (l : List ByteArray) (sign : ByteArray) (w : World) (hr : Kd.C Kd.string w A l.length l) (hM : MaxOk w) (hf : Few l) :
    Calls Tryd.prog 20 #[.slice A l.length c, .func (.func 21) #[.string sign] #[]] w fun e w' => e = .returned (.bool (l.any (has (toBs sign)))) ∧ Drawn0 w w' := by
  have key := index27 A c l sign w hr hM hf
  clear hr hM hf
  go_enter Tryd.func20, Tryd.ntmps20
  go_wp2_with fail
  refine key.mono ?_
  rintro e w' ⟨r, rfl, hd, ⟨nd, rfl⟩⟩
  obtain ⟨x, hgx⟩ : ∃ x, x = l.any (has (toBs sign)) := ⟨_, rfl⟩
  rw [← hgx] at hd
  have HG := Lib.hid hgx
  clear hgx
  go_wp2
  go_ret
  exact ⟨by rw [← HG.out]; rfl, by repeat (first | exact Drawn0.refl _ | apply Drawn0.step)⟩
end Go.Proofs.YtggodagdfldndaaDoor
