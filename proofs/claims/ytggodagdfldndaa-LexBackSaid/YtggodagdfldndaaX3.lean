/- lex.Field and lex.Write in the form that the printed walks take. -/
import Derived.Test.YtggodagdfldndaaF3
namespace Go.Proofs.Ytggodagdfldndaa.Q.L
open Go.RowKit Go.Shelf Go.Proofs.YtggodagdfldndaaW.PrintWords Go.Proofs.YtggodagdfldndaaW.PrintLast Go.Proofs.YtggodagdfldndaaW.PrintMore
/-- lex.Field, as a plain function. -/
def lex_Field.f (a0 : ByteArray) (a1 : Int) (a2 : Int) : Option (ByteArray × Int × Int × Int) :=
  if a0.size ≤ 1048576 then some (ofBs (field (toBs a0) a1 a2).1, (field (toBs a0) a1 a2).2.1, ((field (toBs a0) a1 a2).2.2.1 : Int), ((field (toBs a0) a1 a2).2.2.2 : Int)) else none
theorem field_walk (s : ByteArray) (a d : Int) (w : World) (hm : s.size ≤ 1048576) : Calls Try.prog 34 #[.string s, .int .i64 a, .int .u8 d] w (FieldPost s a d w) := by
  by_cases h0 : a < 0
  · exact field_below s a d w h0
  · by_cases h1 : (s.size : Int) < a
    · exact field_above s a d w h0 h1
    · obtain ⟨n, rfl⟩ := Int.eq_ofNat_of_zero_le (show 0 ≤ a by omega)
      have hn : n ≤ s.size := by omega
      cases hg : goodI d with
      | false => exact field_delim s n d w hn hm hg
      | true =>
        by_cases hq : ((toBs s).drop n).head? = some 34
        · exact field_quotes s n d w hn hm hg hq
        · exact field_plain s n d w hn hm hg hq
theorem lex_Field.calls (a0 : ByteArray) (a1 : Int) (a2 : Int) (r1 : ByteArray) (r2 : Int) (r3 : Int) (r4 : Int) (w : World) (h : lex_Field.f a0 a1 a2 = some (r1, r2, r3, r4)) :
    Calls Try.prog 34 #[.string a0, .int .i64 a1, .int .u8 a2] w fun e w' => e = .returned (.tuple #[.string r1, .int .i64 r2, .int .i64 r3, .int .i64 r4]) ∧ Below w.heap.size w w' := by
  unfold lex_Field.f at h
  by_cases hs : a0.size ≤ 1048576
  · rw [if_pos hs] at h
    simp only [Option.some.injEq, Prod.mk.injEq] at h
    obtain ⟨rfl, rfl, rfl, rfl⟩ := h
    exact field_walk a0 a1 a2 w hs
  · rw [if_neg hs] at h; cases h
/-- lex.Write, as a plain function. -/
def lex_Write.f (k : Nat) (l0 : List ByteArray) (a1 : Int) (a2 : Bool) : Option ByteArray :=
  (lex_record_write.f k l0 a1).bind fun t =>
    if a2 = true then (if t.size + 2 ≤ 9223372036854775807 then some (t ++ (⟨#[13, 10]⟩ : ByteArray)) else none) else (if t.size + 1 ≤ 9223372036854775807 then some (t ++ (⟨#[10]⟩ : ByteArray)) else none)
theorem lex_Write.mono : ∀ l0 a1 a2 k, LeO (lex_Write.f k l0 a1 a2) (lex_Write.f (k + 1) l0 a1 a2) := by
  intro l0 a1 a2 k
  unfold lex_Write.f
  exact LeO.bind (lex_record_write.mono _ _ _) (fun _ => LeO.refl _)
set_option maxHeartbeats 1000000 in
set_option maxRecDepth 100000 in
theorem write_crlf (k : Nat) (A0 : Option Addr) (c0 : Nat) (l0 : List ByteArray) (a1 : Int) (t : ByteArray) (w : World) (hr0 : Kd.C Kd.string w A0 l0.length l0) (hc0 : l0.length ≤ c0) (h : lex_record_write.f k l0 a1 = some t) (hb : t.size + 2 ≤ 9223372036854775807) :
    Calls Try.prog 38 #[.slice A0 l0.length c0, .int .u8 a1, .bool true] w fun e w' => e = .returned (.string (t ++ (⟨#[13, 10]⟩ : ByteArray))) ∧ Below w.heap.size w w' := by
  have H := Lib.hid h
  have hb2 : (9223372036854775807 < t.size + 2) = False := eq_false (by omega)
  clear h
  go_enter Try.func38, Try.ntmps38
  go_wp2_with fail
  refine (lex_record_write.calls k A0 c0 l0 a1 t _ hr0 hc0 H.out).mono ?_
  rintro e w' ⟨rfl, hbel⟩
  go_wp2
  go_ret
  exact ⟨rfl, hbel⟩
set_option maxHeartbeats 1000000 in
set_option maxRecDepth 100000 in
theorem write_lf (k : Nat) (A0 : Option Addr) (c0 : Nat) (l0 : List ByteArray) (a1 : Int) (t : ByteArray) (w : World) (hr0 : Kd.C Kd.string w A0 l0.length l0) (hc0 : l0.length ≤ c0) (h : lex_record_write.f k l0 a1 = some t) (hb : t.size + 1 ≤ 9223372036854775807) :
    Calls Try.prog 38 #[.slice A0 l0.length c0, .int .u8 a1, .bool false] w fun e w' => e = .returned (.string (t ++ (⟨#[10]⟩ : ByteArray))) ∧ Below w.heap.size w w' := by
  have H := Lib.hid h
  have hb2 : (9223372036854775807 < t.size + 1) = False := eq_false (by omega)
  have hb3 : (9223372036854775806 < t.size) = False := eq_false (by omega)
  clear h
  go_enter Try.func38, Try.ntmps38
  go_wp2_with fail
  refine (lex_record_write.calls k A0 c0 l0 a1 t _ hr0 hc0 H.out).mono ?_
  rintro e w' ⟨rfl, hbel⟩
  go_wp2
  go_ret
  exact ⟨rfl, hbel⟩
theorem lex_Write.calls (k : Nat) (A0 : Option Addr) (c0 : Nat) (l0 : List ByteArray) (a1 : Int) (a2 : Bool) (r : ByteArray) (w : World) (hr0 : Kd.C Kd.string w A0 l0.length l0) (hc0 : l0.length ≤ c0) (h : lex_Write.f k l0 a1 a2 = some r) :
    Calls Try.prog 38 #[.slice A0 l0.length c0, .int .u8 a1, .bool a2] w fun e w' => e = .returned (.string r) ∧ Below w.heap.size w w' := by
  unfold lex_Write.f at h
  obtain ⟨t, ht, h⟩ := Option.bind_eq_some_iff.1 h
  cases a2 with
  | true =>
    rw [if_pos rfl] at h
    split at h
    · rename_i hb
      obtain rfl := Option.some.inj h
      exact write_crlf k A0 c0 l0 a1 t w hr0 hc0 ht hb
    · cases h
  | false =>
    rw [if_neg (by decide)] at h
    split at h
    · rename_i hb
      obtain rfl := Option.some.inj h
      exact write_lf k A0 c0 l0 a1 t w hr0 hc0 ht hb
    · cases h
end Go.Proofs.Ytggodagdfldndaa.Q.L
