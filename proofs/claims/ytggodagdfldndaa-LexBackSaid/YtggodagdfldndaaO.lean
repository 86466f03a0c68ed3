/- A list of strings among a law's arguments: opened as the printed walks want it, and read again afterwards. -/
import Derived.Test.YtggodagdfldndaaL0
import Derived.Test.YtggodagdfldndaaRows
import Derived.ProofKit
import Derived.SliceStrings
namespace Go.Proofs.Ytggodagdfldndaa
open Go.ChangeShapes Go.WideShapes Go.ChangeAt Go.RowKit Go.Proofs.YtggodagdfldndaaW.PrintWords
theorem laidOut : laidOutB Try.prog = true := by kernel_rfl
theorem underlying38 : Try.prog.underlying 38 = some (.slice 9) := by kernel_rfl
theorem under9 : Try.prog.underlying 9 = some .string := by kernel_rfl
theorem cells9 : Try.prog.cellsOf 9 = 1 := by kernel_rfl
theorem open_strl {H : Type} {enc : TypeId × Value → H} {W : World} {base : Nat} {v0 : Value} {d0 : DataW H} {p0 : List MemPlace} (hv : Value.okWide Try.prog W .any base 38 v0)
    (h : DataW.Trod enc Try.prog W 0 (fun _ => true) true 38 v0 d0 p0) :
    ∃ (A : Option Addr) (l : List ByteArray) (cap : Nat), v0 = .slice A l.length cap ∧ l.length ≤ cap ∧ Kd.C Kd.string W A l.length l := by
  obtain ⟨a0, len, cap, rfl⟩ := okWide_slice underlying38 hv
  obtain ⟨fuel, hf⟩ := h
  rcases open_strings underlying38 under9 cells9 hf with ⟨hcs, hx⟩ | ⟨a, len', cap', ss, hcs, _, hl, hm, hz, hx, hcell, hsz⟩
  · simp [Value.cells] at hcs
    obtain ⟨rfl, rfl, rfl⟩ := hcs
    exact ⟨none, [], 0, rfl, Nat.le_refl _, Kd.C_of_reads (d := ByteArray.empty) ⟨rfl, Nat.zero_le _, fun h => by cases h⟩⟩
  · simp [Value.cells] at hcs
    obtain ⟨rfl, rfl, rfl⟩ := hcs
    have hz' : cap = ss.length ∨ len = ss.length := by
      split at hz
      · exact Or.inl hz.symm
      · exact Or.inr hz.symm
    have e : (ss.take len).length = len := by rw [List.length_take]; omega
    refine ⟨some a, ss.take len, cap, by rw [e], by rw [e]; exact hl, ?_⟩
    rw [e]
    refine Kd.C_of_reads (d := ByteArray.empty) ⟨e, ?_, fun _ => ⟨a, rfl, fun j hj => ?_⟩⟩
    · have : maxLen ≤ 9223372036854775807 := by decide
      have h9 := Nat.le_trans hm this
      clear this hm
      exact Nat.le_trans hl h9
    · rw [hcell j (by omega)]
      have h3 : (ss.take len).getD j ByteArray.empty = ss.getD j ByteArray.empty := by
        rw [List.getD_eq_getElem?_getD, List.getD_eq_getElem?_getD, List.getElem?_take_of_lt hj]
      rw [h3]
/-- It is read again as before, where nothing of it was written. -/
theorem again_strl {H : Type} {enc : TypeId × Value → H} {W W' : World} {v0 : Value} {d0 : DataW H} {p0 : List MemPlace} (h : DataW.Trod enc Try.prog W 0 (fun _ => true) true 38 v0 d0 p0)
    (hb : Below W.heap.size W W') (hlt : ∀ x ∈ p0, x.block < W.heap.size) : DataW.Trod enc Try.prog W' 0 (fun b => decide (b < W.heap.size)) true 38 v0 d0 p0 :=
  Below.trod laidOut (by kernel_rfl) (of_decide_eq_true (by kernel_rfl)) h hb hlt
end Go.Proofs.Ytggodagdfldndaa
