/- What is quoted is got back, whatever stands behind it, if that begins with no quote: for every input the law answers true. Conditions: none. -/
import Derived.Test.YtggodagdfldndaaQ6
import Derived.Test.YtggodagdfldndaaPA
namespace Go.Proofs.Ytggodagdfldndaa.Pure
open Go.RowKit Go.Proofs.Ytggodagdfldndaa.Q Go.Proofs.YtggodagdfldndaaW.PrintWords Go.Proofs.YtggodagdfldndaaW.PrintLast

/-- The one pure statement of the law. -/
theorem QuoteBack : tartanlaw01_QuoteBack.Pure := by
  intro s b hs hb
  obtain ⟨K, hK⟩ : ∃ K : Nat, 5000 < K := ⟨5001, by omega⟩
  refine ⟨K + 1, ?_⟩
  unfold tartanlaw01_QuoteBack.f
  rw [works01 _ (by omega)]
  simp only [Option.bind_some, if_true]
  have key : s.size ≤ 2000 → b.size ≤ 2000 → NoQ (toBs b) → tartanlaw01_QuoteBack.j0 (K + 1) s b true false = some true := by
    intro h1 h2 hq
    have hl := quoted_length (toBs s)
    have hc : (toBs s).count 34 ≤ (toBs s).length := List.count_le_length
    rw [size_toBs] at hl hc
    simp only [tartanlaw01_QuoteBack.j0]
    rw [if_neg (by decide), quote_Quoted_f s (by omega)]
    simp only [Option.bind_some]
    rw [if_pos (by rw [size_ofBs]; omega), quote_Get_f _ (by rw [ByteArray.size_append, size_ofBs]; omega), toBs_append, toBs_ofBs, getq_quoted _ _ hq]
    simp only [Option.bind_some, if_true, size_ofBs, toList_ofBs, toList_toBs]
    rw [if_pos (toBs_ofBs _)]
    rw [decide_eq_true (by unfold wrap64; omega)]
    rfl
  by_cases h1 : (s.size : Int) > 2000
  · rw [if_pos h1]; rfl
  · rw [if_neg h1]
    by_cases h2 : (b.size : Int) > 2000
    · rw [if_pos h2]; rfl
    · rw [if_neg h2]
      by_cases h3 : (b.size : Int) > 0
      · have h3' : 0 < b.size := by omega
        rw [if_pos h3, if_pos (by omega), show bt b 0 = (b[0].toNat : Int) from bt_nat b 0 h3']
        by_cases hc : b[0] = 34
        · rw [hc]; rfl
        · rw [show ((b[0].toNat : Int) == 34) = false from u8_ne 34 hc]
          refine key (by omega) (by omega) ?_
          intro c r e
          have e2 := drop_toBs b 0 h3'
          rw [List.drop_zero, e] at e2
          rw [(List.cons.inj e2).1]; exact hc
      · rw [if_neg h3]
        refine key (by omega) (by omega) ?_
        intro c r e
        have : (toBs b).length = 0 := by rw [size_toBs]; omega
        rw [e] at this; cases this

end Go.Proofs.Ytggodagdfldndaa.Pure
