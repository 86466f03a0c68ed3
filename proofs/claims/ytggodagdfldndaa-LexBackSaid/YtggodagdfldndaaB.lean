/- Contracts of strings.Builder's methods at this program, and of quote.Get: what stands in quotes, as the plain 'getq' says. -/
import Derived.Test.YtggodagdfldndaaShelf
import Derived.Test.YtggodagdfldndaaS
import Derived.Test.YtggodagdfldndaaWWords
import Derived.WalkKit
import Derived.LoopTactic
import Derived.Deep.LoopGhost
import Derived.Outline
import Derived.WalkMore
import Derived.Lib.Hide
namespace Go.Proofs.Ytggodagdfldndaa
open Go.RowKit Go.Shelf

/-- A builder of the call's own, in block b, holding the bytes l. -/
def Bld (B b : Nat) (l : Bs) (w : World) : Prop := Lib.IsBuilderF 56 5 B b (Lib.byteCells l) w

theorem bld_writeByte (B b : Nat) (l : Bs) (c : UInt8) (w : World) (h : Bld B b l w) (hlen : l.length + 1 ≤ 140737488355328) (hBw : B ≤ w.heap.size) :
    Calls Try.prog 49 #[.pointer (some ⟨b, 0, none⟩), .int .u8 c.toNat] w fun e w' => e = .returned .nilIface ∧ (Bld B b (l ++ [c]) w' ∧ Below B w w' ∧ Lib.OthersKept 5 (some b) w w') := by
  refine (Any.Builder_WriteByte_k Try.bld167 Try.bldX B b (Lib.byteCells l) c.toNat w h (by simpa [Lib.byteCells_length] using hlen) hBw).mono ?_
  rintro e w' ⟨he, h1, h2, h3⟩
  exact ⟨he, by unfold Bld; rw [show Lib.byteCells (l ++ [c]) = Lib.byteCells l ++ [.int .u8 c.toNat] from by simp [Lib.byteCells]]; exact Or.inr h1, h2, h3⟩

theorem bld_writeString (B b : Nat) (l : Bs) (s : ByteArray) (w : World) (h : Bld B b l w) (hlen : l.length + s.size ≤ 140737488355328) (hBw : B ≤ w.heap.size) :
    Calls Try.prog 50 #[.pointer (some ⟨b, 0, none⟩), .string s] w fun e w' => e = .returned (.tuple #[.int .i64 s.size, .nilIface]) ∧ (Bld B b (l ++ toBs s) w' ∧ Below B w w' ∧ Lib.OthersKept 5 (some b) w w') := by
  refine (Any.Builder_WriteString_k Try.bld166 Try.bldX B b (Lib.byteCells l) s w h (by simpa [Lib.byteCells_length] using hlen) hBw).mono ?_
  rintro e w' ⟨he, h1, h2, h3⟩
  exact ⟨he, by unfold Bld; rw [show Lib.byteCells (l ++ toBs s) = Lib.byteCells l ++ Lib.strCells s from by simp [Lib.byteCells, Lib.strCells, toBs]]; exact Or.inr h1, h2, h3⟩

theorem bld_string (B b : Nat) (l : Bs) (w : World) (h : Bld B b l w) (hBw : B ≤ w.heap.size) :
    Calls Try.prog 51 #[.pointer (some ⟨b, 0, none⟩)] w fun e w' => e = .returned (.string (ofBs l)) ∧ (Bld B b l w' ∧ Below B w w' ∧ Lib.OthersKept 5 (some b) w w') :=
  Any.Builder_String_any_k Try.bld169 Try.bldX B b l w h hBw

theorem bld_len (B b : Nat) (l : Bs) (w : World) (h : Bld B b l w) :
    Calls Try.prog 68 #[.pointer (some ⟨b, 0, none⟩)] w fun e w' => e = .returned (.int .i64 l.length) ∧ w' = w := by
  refine (Any.Builder_Len_f Try.bld170 B b (Lib.byteCells l) w h).mono ?_
  rintro e w' ⟨he, h1⟩
  exact ⟨by rw [he, Lib.byteCells_length], h1⟩

theorem bld_new (w : World) : Bld w.heap.size w.heap.size [] (w.alloc (.cells #[.pointer none, .slice none 0 0] 56 (0, 0))) := by
  refine Or.inl ⟨Nat.le_refl _, .slice none 0 0, heap_alloc_new w _, ⟨by simp, Or.inl ⟨rfl, rfl⟩⟩, by simp [Value.ownBlock]⟩
end Go.Proofs.Ytggodagdfldndaa
