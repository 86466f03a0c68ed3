/- What the four laws of chapter 18 need of their rows: a list of strings opened and read again, bounded; a world that holds Go's two tables; bytealg.MaxLen holds a number in a world of the program's shape. -/
import Derived.Test.YtggodagdfldndaaDoorPF
import Derived.Test.YtggodagdfldndaaDoorRows
import Derived.ProofKit
import Derived.SliceStrings
import Derived.Lay
import Derived.LaidMore
import Derived.Deep.DeepHandedRow
namespace Go.Proofs.YtggodagdfldndaaDoor
open Go.ChangeShapes Go.WideShapes Go.ChangeAt Go.RowKit Go.Proofs.YtggodagdfldndaaDoorW.PrintWords
theorem laidOut18 : laidOutB Tryd.prog = true := by kernel_rfl
theorem under22 : Tryd.prog.underlying 22 = some (.slice 9) := by kernel_rfl
theorem under9 : Tryd.prog.underlying 9 = some .string := by kernel_rfl
theorem cells9 : Tryd.prog.cellsOf 9 = 1 := by kernel_rfl
theorem open_strl {H : Type} {enc : TypeId × Value → H} {W : World} {base : Nat} {v0 : Value} {d0 : DataW H} {p0 : List MemPlace} (hv : Value.okWide Tryd.prog W .any base 22 v0)
    (h : DataW.Trod enc Tryd.prog W 0 (fun _ => true) true 22 v0 d0 p0) (hw : ∀ n ∈ d0.weights Tryd.prog 22, n ≤ reachBytes) :
    ∃ (A : Option Addr) (l : List ByteArray) (cap : Nat), v0 = .slice A l.length cap ∧ l.length ≤ cap ∧ Kd.C Kd.string W A l.length l ∧ Q.SizedC l := by
  obtain ⟨a0, len, cap, rfl⟩ := okWide_slice under22 hv
  obtain ⟨fuel, hf⟩ := h
  rcases open_strings under22 under9 cells9 hf with ⟨hcs, hx⟩ | ⟨a, len', cap', ss, hcs, _, hl, hm, hz, hx, hcell, hsz⟩
  · simp [Value.cells] at hcs
    obtain ⟨rfl, rfl, rfl⟩ := hcs
    exact ⟨none, [], 0, rfl, Nat.le_refl _, Kd.C_of_reads (d := ByteArray.empty) ⟨rfl, Nat.zero_le _, fun h => by cases h⟩, fun x hx => by cases hx⟩
  · simp [Value.cells] at hcs
    obtain ⟨rfl, rfl, rfl⟩ := hcs
    have hz' : cap = ss.length ∨ len = ss.length := by
      split at hz
      · exact Or.inl hz.symm
      · exact Or.inr hz.symm
    have e : (ss.take len).length = len := by rw [List.length_take]; omega
    refine ⟨some a, ss.take len, cap, by rw [e], by rw [e]; exact hl, ?_, ?_⟩
    · rw [e]
      refine Kd.C_of_reads (d := ByteArray.empty) ⟨e, ?_, fun _ => ⟨a, rfl, fun j hj => ?_⟩⟩
      · have : maxLen ≤ 9223372036854775807 := by decide
        have h9 := Nat.le_trans hm this
        clear this hm
        exact Nat.le_trans hl h9
      · rw [hcell j (by omega)]
        have h3 : (ss.take len).getD j ByteArray.empty = ss.getD j ByteArray.empty := by
          rw [List.getD_eq_getElem?_getD, List.getD_eq_getElem?_getD, List.getElem?_take_of_lt hj]
        rw [h3]
    · intro y hy
      have hr : y.size ≤ reachBytes := by
        refine hw _ ?_
        rw [(Prod.mk.inj hx).1]
        unfold DataW.weights
        rw [under22]
        refine List.mem_cons_of_mem _ (List.mem_append_left _ ?_)
        have : ∀ (ss : List ByteArray), ∀ y ∈ ss, y.size ∈ DataW.weightsAll Tryd.prog 9 (strs (H := H) ss) := by
          intro ss
          induction ss with
          | nil => intro y h; cases h
          | cons s ss ih =>
            intro y h
            show y.size ∈ _ ++ _
            rcases List.mem_cons.1 h with rfl | h
            · exact List.mem_append_left _ (by simp [DataW.weights])
            · exact List.mem_append_right _ (ih y h)
        exact this _ y hy
      exact hr
/-- It is read again as before, where nothing of it was written. -/
theorem again_strl {H : Type} {enc : TypeId × Value → H} {W W' : World} {v0 : Value} {d0 : DataW H} {p0 : List MemPlace} (h : DataW.Trod enc Tryd.prog W 0 (fun _ => true) true 22 v0 d0 p0)
    (hb : Below W.heap.size W W') (hlt : ∀ x ∈ p0, x.block < W.heap.size) : DataW.Trod enc Tryd.prog W' 0 (fun b => decide (b < W.heap.size)) true 22 v0 d0 p0 :=
  Below.trod laidOut18 (by kernel_rfl) (of_decide_eq_true (by kernel_rfl)) h hb hlt
/-- What it weighs is bounded. -/
theorem weight_le {H : Type} {P : Program} {ts : List TypeId} {ds : List (DataW H)} (h : (DataW.weightsEach P ts ds).all (· ≤ reachBytes) = true) {j : Nat} {t : TypeId} {d : DataW H} (ht : ts[j]? = some t) (hd : ds[j]? = some d) : ∀ n ∈ d.weights P t, n ≤ reachBytes := fun n hn => by
  have := List.all_eq_true.1 h _ (DataW.weights_mem_each ht hd n hn)
  simpa using this
theorem maxOk_of_shape {w : World} (h : w.ShapedOpen Tryd.prog) : MaxOk w := Tryd.laysM144.s1_3 w h
/-- The list that the four rows bear. -/
def laid18 : List (String × DataW Unit) := [("unicode/utf8.acceptRanges", Rows.laid_unicode_utf8_acceptRanges), ("unicode/utf8.first", Rows.laid_unicode_utf8_first)]
theorem met18 (os : Os) (args : Array Value) : laidMetH Tryd.prog laid18 ((World.laidAll Tryd.prog os laid18).forCall (fun _ _ => 0) ⟨#[], args, []⟩).memory := by
  rw [MakeChecks.laidMetH_plain _ _ _ (by kernel_rfl)]
  exact laidMet_laidAll _ (by kernel_rfl) (by kernel_rfl)
end Go.Proofs.YtggodagdfldndaaDoor
