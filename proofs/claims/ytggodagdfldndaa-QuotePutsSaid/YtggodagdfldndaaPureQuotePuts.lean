/- A cell as it is written, in quotes or without, is just what the document says: for every input the law answers true. Conditions: none. -/
import Derived.Test.YtggodagdfldndaaQ3
import Derived.Test.YtggodagdfldndaaPA
namespace Go.Proofs.Ytggodagdfldndaa.Pure
open Go.RowKit Go.Proofs.Ytggodagdfldndaa.Q Go.Proofs.YtggodagdfldndaaW.PrintWords Go.Proofs.YtggodagdfldndaaW.PrintLast

/-- The one pure statement of the law. -/
theorem QuotePuts : tartanlaw01_QuotePuts.Pure := by
  intro s d hs hd
  refine ⟨2020 + 11, ?_⟩
  unfold tartanlaw01_QuotePuts.f
  rw [works01 _ (by omega)]
  simp only [Option.bind_some, if_true]
  by_cases h : (s.size : Int) > 2000
  · rw [if_pos h]
  · rw [if_neg h, ref01_Put_f s d (by omega) _ (by omega), quote_Put_f s d (by omega) _ (by omega), quote_Quoted_f s (by omega), ref01_Quoted_f s (by omega) _ (by omega), quote_Size_f s d (by omega) _ (by omega), quote_Good_f, ref01_Good_f, quote_Plain_f s d (by omega) _ (by omega), ref01_Plain_f s d (by omega) _ (by omega)]
    simp [size_ofBs]

end Go.Proofs.Ytggodagdfldndaa.Pure
