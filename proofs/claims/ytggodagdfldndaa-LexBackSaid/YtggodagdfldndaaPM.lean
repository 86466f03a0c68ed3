/- The document's examples of chapter 2 hold. -/
import Derived.Test.YtggodagdfldndaaM1
import Derived.Test.YtggodagdfldndaaPL2
namespace Go.Proofs.Ytggodagdfldndaa.Q.L.M
open Go.RowKit Go.Proofs.YtggodagdfldndaaW.PrintWords Go.Proofs.YtggodagdfldndaaW.PrintLast Go.Proofs.Ytggodagdfldndaa.Q.L
theorem works02 (k : Nat) (hk : 1010 < k) : tartanlaw02_works.f k = some true := by
  obtain ⟨k, rfl⟩ : ∃ q, k = q + 1 := ⟨k - 1, by omega⟩
  unfold tartanlaw02_works.f
  have e := lex_Write_f 44 [(⟨#[97]⟩ : ByteArray), (⟨#[97, 44, 98]⟩ : ByteArray)] false (by decide) (by intro x hx; simp only [List.mem_cons, List.not_mem_nil, or_false] at hx; rcases hx with rfl | rfl <;> decide) (k + 1) (by show 1000 + 2 + 1 < _; omega)
  rw [show (((44 : UInt8).toNat : Nat) : Int) = 44 from rfl] at e
  rw [lex_Field_f _ _ _ (by decide), lex_Field_f _ _ _ (by decide), lex_Field_f _ _ _ (by decide), e, lex_Break_f, lex_Break_f]
  decide +kernel
end Go.Proofs.Ytggodagdfldndaa.Q.L.M
