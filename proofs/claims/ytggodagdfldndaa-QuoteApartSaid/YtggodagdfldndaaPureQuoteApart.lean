/- Cells that are unlike are written unlike: for every input the law answers true. Conditions: none. -/
import Derived.Test.YtggodagdfldndaaQ8
import Derived.Test.YtggodagdfldndaaPA
namespace Go.Proofs.Ytggodagdfldndaa.Pure
open Go.RowKit Go.Proofs.Ytggodagdfldndaa.Q Go.Proofs.YtggodagdfldndaaW.PrintWords Go.Proofs.YtggodagdfldndaaW.PrintLast

/-- The one pure statement of the law. -/
theorem QuoteApart : tartanlaw01_QuoteApart.Pure := by
  intro a b d ha hb hd
  obtain ⟨K, hK⟩ : ∃ K : Nat, 5000 < K := ⟨5001, by omega⟩
  refine ⟨K + 1, ?_⟩
  unfold tartanlaw01_QuoteApart.f
  rw [works01 _ (by omega)]
  simp only [Option.bind_some, if_true]
  by_cases h1 : (a.size : Int) > 2000
  · rw [if_pos h1]; rfl
  · rw [if_neg h1]
    by_cases h2 : (b.size : Int) > 2000
    · rw [decide_eq_true h2]; rfl
    · rw [decide_eq_false h2]
      simp only [tartanlaw01_QuoteApart.j0]
      rw [if_neg (by decide), if_pos trivial, quote_Put_f a d (by omega) _ (by omega), quote_Put_f b d (by omega) _ (by omega), quote_Quoted_f a (by omega), quote_Quoted_f b (by omega)]
      simp only [Option.bind_some, toList_toBs, toBs_ofBs]
      have e1 : (put (toBs a) d == put (toBs b) d) = (toBs a == toBs b) := by
        rw [Bool.eq_iff_iff]; simp only [beq_iff_eq]; exact ⟨put_inj, fun e => by rw [e]⟩
      have e2 : (quoted (toBs a) == quoted (toBs b)) = (toBs a == toBs b) := by
        rw [Bool.eq_iff_iff]; simp only [beq_iff_eq]; exact ⟨quoted_inj, fun e => by rw [e]⟩
      rw [e1, e2]
      simp

end Go.Proofs.Ytggodagdfldndaa.Pure
