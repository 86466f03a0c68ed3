/- lex.Field walked: it hands back what the plain 'field' says. -/
import Derived.Test.YtggodagdfldndaaPL
import Derived.Deep.QuietTactic
import Derived.BigQuiet
namespace Go.Proofs.Ytggodagdfldndaa.Q.L
open Go.RowKit Go.Shelf Go.Proofs.YtggodagdfldndaaW.PrintWords
set_option maxHeartbeats 1000000 in
set_option maxRecDepth 100000 in
theorem wrong_make (b : Nat) (sg e : Int) (w : World) :
    Calls Try.prog 57 #[.int .u8 sg, .int .i64 e, .pointer (some ⟨b, 0, none⟩)] w fun r w' =>
      r = .returned (.func (.func 58) #[] #[.pointer (some ⟨b, 0, none⟩), .pointer (some ⟨w.heap.size, 0, none⟩), .pointer (some ⟨w.heap.size + 1, 0, none⟩)]) ∧
      w' = (w.alloc (.cells #[.int .u8 sg] 5)).alloc (.cells #[.int .i64 e] 28) := by
  go_enter Try.func57, Try.ntmps57
  go_wp2
  go_ret
  exact ⟨rfl, rfl⟩
set_option maxHeartbeats 1000000 in
set_option maxRecDepth 100000 in
theorem look_yes (s : ByteArray) (b b1 b2 i : Nat) (sg e : Int) (w : World) (hi : i < s.size) (hm : s.size ≤ 1048576) (hc : w.cell? ⟨b, 0, none⟩ = some (.string s)) (hc1 : w.cell? ⟨b1, 0, none⟩ = some (.int .u8 sg)) (hc2 : w.cell? ⟨b2, 0, none⟩ = some (.int .i64 e))
    (h : ((s[i].toNat : Int) == sg) = true) :
    Calls Try.prog 58 #[.int .i64 i, .pointer (some ⟨b, 0, none⟩), .pointer (some ⟨b1, 0, none⟩), .pointer (some ⟨b2, 0, none⟩)] w fun r w' => r = .returned (.int .i64 e) ∧ ∃ n, w' = w.drewN n := by
  have h0 : (0 : Int) ≤ i := by omega
  have h1 : (i : Int) < (s.size : Int) := by omega
  go_enter Try.func58, Try.ntmps58
  go_wp2
  go_quiet (fail)
  go_wp2
  go_ret
  exact ⟨rfl, _, rfl⟩
set_option maxHeartbeats 1000000 in
set_option maxRecDepth 100000 in
theorem look_no (s : ByteArray) (b b1 b2 i : Nat) (sg e : Int) (w : World) (hi : i < s.size) (hm : s.size ≤ 1048576) (hc : w.cell? ⟨b, 0, none⟩ = some (.string s)) (hc1 : w.cell? ⟨b1, 0, none⟩ = some (.int .u8 sg)) (hc2 : w.cell? ⟨b2, 0, none⟩ = some (.int .i64 e))
    (h : ((s[i].toNat : Int) == sg) = false) :
    Calls Try.prog 58 #[.int .i64 i, .pointer (some ⟨b, 0, none⟩), .pointer (some ⟨b1, 0, none⟩), .pointer (some ⟨b2, 0, none⟩)] w fun r w' => r = .returned (.int .i64 0) ∧ ∃ n, w' = w.drewN n := by
  have h0 : (0 : Int) ≤ i := by omega
  have h1 : (i : Int) < (s.size : Int) := by omega
  go_enter Try.func58, Try.ntmps58
  go_wp2
  go_quiet (fail)
  go_wp2
  go_ret
  exact ⟨rfl, _, rfl⟩

/-- What the call hands back. -/
def FieldPost (s : ByteArray) (a d : Int) (w : World) (e : Ending) (w' : World) : Prop :=
  e = .returned (.tuple #[.string (ofBs (field (toBs s) a d).1), .int .i64 (field (toBs s) a d).2.1, .int .i64 (field (toBs s) a d).2.2.1, .int .i64 (field (toBs s) a d).2.2.2]) ∧ Below w.heap.size w w'
theorem fieldPost_mk {s : ByteArray} {a d : Int} {w w' : World} {c : ByteArray} {n k e : Int} (h1 : ofBs (field (toBs s) a d).1 = c) (h2 : (field (toBs s) a d).2.1 = n) (h3 : ((field (toBs s) a d).2.2.1 : Int) = k) (h4 : ((field (toBs s) a d).2.2.2 : Int) = e) (hb : Below w.heap.size w w') :
    FieldPost s a d w (.returned (.tuple #[.string c, .int .i64 n, .int .i64 k, .int .i64 e])) w' := by
  subst h1 h2 h3 h4; exact ⟨rfl, hb⟩
set_option maxHeartbeats 1000000 in
set_option maxRecDepth 100000 in
theorem field_below (s : ByteArray) (a d : Int) (w : World) (h : a < 0) : Calls Try.prog 34 #[.string s, .int .i64 a, .int .u8 d] w (FieldPost s a d w) := by
  have hf : field (toBs s) a d = ([], a, 0, 11) := by unfold field; rw [if_pos (Or.inl h)]
  have Hf := Lib.hid hf
  clear hf
  have hx : decide (a < 0) = true := decide_eq_true h
  go_enter Try.func34, Try.ntmps34
  go_wp2
  go_step3
  go_wp2
  rw [Exit.noGoto_ret]
  refine bodyPost_ret (results_list (rs := [.tmp 6, .tmp 7, .tmp 8, .tmp 9]) rfl (by simp) (.tmp (.tmp (.tmp (.tmp .nil))))) rfl ?_
  exact fieldPost_mk (by rw [Hf.out]; rfl) (by rw [Hf.out]) (by rw [Hf.out]; rfl) (by rw [Hf.out]; rfl) ((Below.refl _ _).alloc (Nat.le_refl _) _)
set_option maxHeartbeats 1000000 in
set_option maxRecDepth 100000 in
theorem field_above (s : ByteArray) (a d : Int) (w : World) (h0 : ¬ a < 0) (h : (s.size : Int) < a) : Calls Try.prog 34 #[.string s, .int .i64 a, .int .u8 d] w (FieldPost s a d w) := by
  have hf : field (toBs s) a d = ([], a, 0, 11) := by unfold field; rw [if_pos (Or.inr (by rw [size_toBs]; exact h))]
  have Hf := Lib.hid hf
  clear hf
  have hx : decide (a < 0) = false := decide_eq_false h0
  have hx2 : decide ((s.size : Int) < a) = true := decide_eq_true h
  go_enter Try.func34, Try.ntmps34
  go_wp2
  go_step3
  go_wp2
  rw [Exit.noGoto_ret]
  refine bodyPost_ret (results_list (rs := [.tmp 6, .tmp 7, .tmp 8, .tmp 9]) rfl (by simp) (.tmp (.tmp (.tmp (.tmp .nil))))) rfl ?_
  exact fieldPost_mk (by rw [Hf.out]; rfl) (by rw [Hf.out]) (by rw [Hf.out]; rfl) (by rw [Hf.out]; rfl) ((Below.refl _ _).alloc (Nat.le_refl _) _)
set_option maxHeartbeats 1000000 in
set_option maxRecDepth 100000 in
theorem field_delim (s : ByteArray) (n : Nat) (d : Int) (w : World) (hn : n ≤ s.size) (hm : s.size ≤ 1048576) (hg : goodI d = false) : Calls Try.prog 34 #[.string s, .int .i64 n, .int .u8 d] w (FieldPost s n d w) := by
  have hf : field (toBs s) n d = ([], (n : Int), 0, 2) := by unfold field; rw [if_neg (by rw [size_toBs]; omega), if_neg (by rw [hg]; decide)]
  have Hf := Lib.hid hf
  have hgf : quote_Good.f d = some false := by rw [quote_Good_f, hg]
  have Hg := Lib.hid hgf
  clear hf hgf
  have hx : decide ((n : Int) < 0) = false := decide_eq_false (by omega)
  have hx2 : decide ((s.size : Int) < n) = false := decide_eq_false (by omega)
  go_enter Try.func34, Try.ntmps34
  go_wp2
  go_step3
  go_wp2_with fail
  refine (quote_Good.calls d false _ Hg.out).mono ?_
  rintro e w' ⟨rfl, ⟨nd, rfl⟩⟩
  go_wp2
  rw [Exit.noGoto_ret]
  refine bodyPost_ret (results_list (rs := [.tmp 6, .tmp 7, .tmp 8, .tmp 9]) rfl (by simp) (.tmp (.tmp (.tmp (.tmp .nil))))) rfl ?_
  exact fieldPost_mk (by rw [Hf.out]; rfl) (by rw [Hf.out]) (by rw [Hf.out]; rfl) (by rw [Hf.out]; rfl) (by first | exact ((Below.refl _ _).alloc (Nat.le_refl _) _) | exact pw_below_drewN ((Below.refl _ _).alloc (Nat.le_refl _) _) _)
end Go.Proofs.Ytggodagdfldndaa.Q.L
