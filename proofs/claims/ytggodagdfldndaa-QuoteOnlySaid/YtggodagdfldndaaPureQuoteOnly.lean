/- What is got was quoted just so, and no quote follows: for every input the law answers true. Conditions: none. -/
import Derived.Test.YtggodagdfldndaaQ7
import Derived.Test.YtggodagdfldndaaPA
namespace Go.Proofs.Ytggodagdfldndaa.Pure
open Go.RowKit Go.Proofs.Ytggodagdfldndaa.Q Go.Proofs.YtggodagdfldndaaW.PrintWords Go.Proofs.YtggodagdfldndaaW.PrintLast

/-- The one pure statement of the law. -/
theorem QuoteOnly : tartanlaw01_QuoteOnly.Pure := by
  intro s hs
  obtain ⟨K, hK⟩ : ∃ K : Nat, 5000 < K := ⟨5001, by omega⟩
  refine ⟨K, ?_⟩
  unfold tartanlaw01_QuoteOnly.f
  rw [works01 _ (by omega)]
  simp only [Option.bind_some, if_true]
  by_cases h : (s.size : Int) > 2000
  · rw [if_pos h]
  · rw [if_neg h, quote_Get_f s (by omega)]
    simp only [Option.bind_some]
    by_cases he : (getq (toBs s)).2.2 = 0
    · obtain ⟨l, n, hg⟩ : ∃ l n, getq (toBs s) = (l, n, 0) := ⟨(getq (toBs s)).1, (getq (toBs s)).2.1, by rw [← he]⟩
      obtain ⟨h1, h2, h3, h4⟩ := getq_only _ _ _ hg
      rw [size_toBs] at h2
      have hql : l.length ≤ 2000 := by
        have h5 := congrArg List.length h3
        rw [quoted_length, List.length_take, size_toBs] at h5
        omega
      rw [hg]
      simp only []
      rw [if_pos (by omega), if_neg (by omega), if_neg (by omega), quote_Quoted_f _ (by rw [size_ofBs]; omega)]
      simp only [Option.bind_some]
      rw [if_pos (by omega), if_pos (by omega)]
      have e1 : toBs (s.extract 0 ((n : Int)).toNat) = quoted l := by
        rw [toBs_extract, Int.toNat_natCast, List.drop_zero, h3]
      rw [if_pos (by rw [toList_ofBs, toList_toBs, e1, toBs_ofBs])]
      by_cases hn : n = s.size
      · rw [if_pos (by omega)]
      · have hlt : n < s.size := by omega
        rw [if_neg (by omega), if_pos (by omega), bt_nat s n hlt]
        have h5 := h4 _ _ (drop_toBs s n hlt)
        rw [b34_ne' h5]
    · obtain ⟨h1, h2⟩ := getq_fault _ he
      rw [if_neg (by omega), h1, h2, if_pos (by rw [toList_ofBs])]
      rfl

end Go.Proofs.Ytggodagdfldndaa.Pure
