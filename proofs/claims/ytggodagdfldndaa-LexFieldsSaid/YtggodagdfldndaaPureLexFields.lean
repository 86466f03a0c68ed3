/- A field, where it ends, at what, and what is wrong where are what the document's own function gives: for every input the law answers true. Conditions: none. -/
import Derived.Test.YtggodagdfldndaaM2
import Derived.Test.YtggodagdfldndaaPM
namespace Go.Proofs.Ytggodagdfldndaa.Pure
open Go.RowKit Go.Proofs.Ytggodagdfldndaa.Q.L.M Go.Proofs.Ytggodagdfldndaa.Q.L Go.Proofs.YtggodagdfldndaaW.PrintWords Go.Proofs.YtggodagdfldndaaW.PrintLast

/-- The one pure statement of the law. -/
theorem LexFields : tartanlaw02_LexFields.Pure := by
  intro s a d hs _ _
  obtain ⟨K, hK⟩ : ∃ K : Nat, 5000 < K := ⟨5001, by omega⟩
  refine ⟨K + 1, ?_⟩
  unfold tartanlaw02_LexFields.f
  rw [works02 _ (by omega), Option.bind_some, if_pos rfl]
  by_cases h1 : (s.size : Int) > 2000
  · rw [if_pos h1]
  · rw [if_neg h1, lex_Field_f s a d (by omega), ref02_Field_f s a d (by omega) _ (by omega), Option.bind_some, Option.bind_some, if_pos rfl, if_pos rfl, if_pos rfl, if_pos rfl, lex_Break_f, ref02_Break_f s a K hs, Option.bind_some, Option.bind_some]
    simp

end Go.Proofs.Ytggodagdfldndaa.Pure
