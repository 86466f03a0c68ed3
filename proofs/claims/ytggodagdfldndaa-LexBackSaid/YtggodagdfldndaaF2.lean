/- lex.Field walked on: a field in quotes, and a plain one (the loop over places, and over the two looks at each). -/
import Derived.Test.YtggodagdfldndaaF
namespace Go.Proofs.Ytggodagdfldndaa.Q.L
open Go.RowKit Go.Shelf Go.Proofs.YtggodagdfldndaaW.PrintWords
set_option maxHeartbeats 1000000 in
set_option maxRecDepth 100000 in
theorem field_quotes (s : ByteArray) (n : Nat) (d : Int) (w : World) (hn : n ≤ s.size) (hm : s.size ≤ 1048576) (hg : goodI d = true) (hq : ((toBs s).drop n).head? = some 34) :
    Calls Try.prog 34 #[.string s, .int .i64 n, .int .u8 d] w (FieldPost s n d w) := by
  have hf : field (toBs s) n d = ((quotedF d ((toBs s).drop n)).1, (n : Int) + (quotedF d ((toBs s).drop n)).2.1, (quotedF d ((toBs s).drop n)).2.2.1, (quotedF d ((toBs s).drop n)).2.2.2) := by
    unfold field
    rw [if_neg (by rw [size_toBs]; omega), if_pos hg, Int.toNat_natCast]
    unfold fieldR
    rw [if_pos hq]
  have Hf := Lib.hid hf
  have Hg := Lib.hid (show quote_Good.f d = some true by rw [quote_Good_f, hg])
  have Hp := Lib.hid (show strings_HasPrefix.f (s.extract n s.size) (⟨#[34]⟩ : ByteArray) = some true by
    rw [hasPrefix_f]
    have e : toBs (s.extract n s.size) = (toBs s).drop n := Lib.extract_to_end s n
    have e2 : toBs (⟨#[34]⟩ : ByteArray) = [34] := by decide
    rw [e, e2, show (⟨#[34]⟩ : ByteArray).size = 1 from rfl, decide_eq_true]
    cases hl : (toBs s).drop n with
    | nil => rw [hl] at hq; cases hq
    | cons c r => rw [hl] at hq; simp at hq; rw [hq]; rfl)
  have Hq := Lib.hid (lex_quoted_f s n 0 d hn hm)
  clear hf hq
  have hx : decide ((n : Int) < 0) = false := decide_eq_false (by omega)
  have hx2 : decide ((s.size : Int) < n) = false := decide_eq_false (by omega)
  have b1 : (0 : Int) ≤ n := by omega
  have b2 : (n : Int) ≤ (s.size : Int) := by omega
  go_enter Try.func34, Try.ntmps34
  go_wp2
  go_step3
  go_wp2_with fail
  refine (quote_Good.calls d true _ Hg.out).mono ?_
  rintro e w' ⟨rfl, ⟨nd, rfl⟩⟩
  go_wp2_with fail
  refine (strings_HasPrefix.calls _ _ true _ Hp.out).mono ?_
  rintro e w' ⟨rfl, ⟨nd2, rfl⟩⟩
  go_wp2_with fail
  refine (lex_quoted.calls 1 s n d _ _ _ _ _ Hq.out).mono ?_
  rintro e w' ⟨rfl, hb⟩
  go_wp2
  rw [Exit.noGoto_ret]
  refine bodyPost_ret (results_list (rs := [.tmp 6, .tmp 7, .tmp 8, .tmp 9]) rfl (by simp) (.tmp (.tmp (.tmp (.tmp .nil))))) rfl ?_
  exact fieldPost_mk (by rw [Hf.out]) (by rw [Hf.out]) (by rw [Hf.out]) (by rw [Hf.out]) (Below.trans (by first | exact ((Below.refl _ _).alloc (Nat.le_refl _) _) | exact pw_below_drewN ((Below.refl _ _).alloc (Nat.le_refl _) _) _) (hb.mono (by simp)))
end Go.Proofs.Ytggodagdfldndaa.Q.L
