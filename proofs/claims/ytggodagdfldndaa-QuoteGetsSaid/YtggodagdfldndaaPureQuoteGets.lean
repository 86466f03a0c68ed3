/- What stands in quotes, and how many bytes it was written with, is just what the document says: for every input the law answers true. Conditions: none. -/
import Derived.Test.YtggodagdfldndaaQ5
import Derived.Test.YtggodagdfldndaaPA
namespace Go.Proofs.Ytggodagdfldndaa.Pure
open Go.RowKit Go.Proofs.Ytggodagdfldndaa.Q Go.Proofs.YtggodagdfldndaaW.PrintWords Go.Proofs.YtggodagdfldndaaW.PrintLast

/-- The one pure statement of the law. -/
theorem QuoteGets : tartanlaw01_QuoteGets.Pure := by
  intro s hs
  refine ⟨2020 + 11, ?_⟩
  unfold tartanlaw01_QuoteGets.f
  rw [works01 _ (by omega)]
  simp only [Option.bind_some, if_true]
  by_cases h : (s.size : Int) > 2000
  · rw [if_pos h]
  · rw [if_neg h, quote_Get_f s (by omega), ref01_Get_f s (by omega) _ (by omega)]
    simp

end Go.Proofs.Ytggodagdfldndaa.Pure
