/- Two cells in quotes have two bytes more than both together in quotes; a cell is as long as it is written just if it is plain: for every input the law answers true. Conditions: none. -/
import Derived.Test.YtggodagdfldndaaQ9
import Derived.Test.YtggodagdfldndaaPA
namespace Go.Proofs.Ytggodagdfldndaa.Pure
open Go.RowKit Go.Proofs.Ytggodagdfldndaa.Q Go.Proofs.YtggodagdfldndaaW.PrintWords Go.Proofs.YtggodagdfldndaaW.PrintLast

theorem sizes_none (a b : ByteArray) (d : Int) (K : Nat) : tartanlaw01_QuoteSizes.j0 (K + 1) a b d true true = some true := by
  simp only [tartanlaw01_QuoteSizes.j0]; rfl
theorem sizes_both (a b : ByteArray) (d : Int) (K : Nat) (p q : Bool) : (if p = true then tartanlaw01_QuoteSizes.j1 K a b d true q else tartanlaw01_QuoteSizes.j1 K a b d true false) = tartanlaw01_QuoteSizes.j1 K a b d true (p && q) := by
  cases p <;> simp
theorem sizes_last (a b : ByteArray) (d : Int) (K : Nat) (hK : 5000 < K) (ha : a.size ≤ 2000) (hb : b.size ≤ 2000) : tartanlaw01_QuoteSizes.j1 (K + 1) a b d true (plain (toBs a ++ toBs b) d) = some true := by
  have hab : (a ++ b).size = a.size + b.size := ByteArray.size_append
  have hla := quoted_length (toBs a)
  rw [size_toBs] at hla
  simp only [tartanlaw01_QuoteSizes.j1]
  rw [if_pos (by omega), quote_Plain_f (a ++ b) d (by omega) _ (by omega), quote_Size_f a d (by omega) _ (by omega), quote_Plain_f a d (by omega) _ (by omega), toBs_append]
  simp only [Option.bind_some, bne_self_eq_false, Bool.false_eq_true, if_false, if_true]
  congr 1
  unfold put
  cases hp : plain (toBs a) d
  · have e : (((quoted (toBs a)).length : Int) == (a.size : Int)) = false := by rw [beq_eq_false_iff_ne]; omega
    simp [e]
  · simp [size_toBs]
theorem sizes_sum (a b : ByteArray) (ha : a.size ≤ 2000) (hb : b.size ≤ 2000) : wrap64 (((quoted (toBs a)).length : Int) + ((quoted (toBs b)).length : Int)) = wrap64 (((quoted (toBs a ++ toBs b)).length : Int) + 2) := by
  rw [quoted_length, quoted_length, quoted_length, List.length_append, List.count_append, size_toBs, size_toBs]
  congr 1
  omega
theorem sizes_all (a b : ByteArray) (d : Int) (K : Nat) (hK : 5000 < K) (ha : a.size ≤ 2000) (hb : b.size ≤ 2000) : tartanlaw01_QuoteSizes.j0 (K + 1 + 1) a b d true false = some true := by
  have hab : (a ++ b).size = a.size + b.size := ByteArray.size_append
  simp only [tartanlaw01_QuoteSizes.j0]
  rw [if_neg (by decide), quote_Quoted_f a (by omega), Option.bind_some, quote_Quoted_f b (by omega), Option.bind_some, if_pos (by omega), quote_Quoted_f (a ++ b) (by omega), Option.bind_some,
    if_pos (by rw [size_ofBs, size_ofBs, size_ofBs, toBs_append]; exact sizes_sum a b ha hb), quote_Plain_f a d (by omega) _ (by omega), Option.bind_some, quote_Plain_f b d (by omega) _ (by omega), Option.bind_some, sizes_both, ← plain_append]
  exact sizes_last a b d K hK ha hb
/-- The one pure statement of the law. -/
theorem QuoteSizes : tartanlaw01_QuoteSizes.Pure := by
  intro a b d ha hb hd
  obtain ⟨K, hK⟩ : ∃ K : Nat, 5000 < K := ⟨5001, by omega⟩
  refine ⟨K + 1 + 1, ?_⟩
  unfold tartanlaw01_QuoteSizes.f
  rw [works01 _ (by omega)]
  simp only [Option.bind_some, if_true]
  by_cases h1 : (a.size : Int) > 2000
  · rw [if_pos h1]; exact sizes_none a b d _
  · rw [if_neg h1]
    by_cases h2 : (b.size : Int) > 2000
    · rw [decide_eq_true h2]; exact sizes_none a b d _
    · rw [decide_eq_false h2]; exact sizes_all a b d K hK (by omega) (by omega)

end Go.Proofs.Ytggodagdfldndaa.Pure
