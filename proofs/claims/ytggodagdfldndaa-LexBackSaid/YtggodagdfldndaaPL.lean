/- What the printed Lean functions of chapter 2 come to, with enough rounds: the plain functions. -/
import Derived.Test.YtggodagdfldndaaL2
import Derived.Test.YtggodagdfldndaaL1
import Derived.Test.YtggodagdfldndaaPA
import Derived.Test.YtggodagdfldndaaS2
namespace Go.Proofs.Ytggodagdfldndaa.Q.L
open Go.RowKit Go.Proofs.YtggodagdfldndaaW.PrintWords Go.Proofs.YtggodagdfldndaaW.PrintLast

/-- How long the break is that stands at a place. -/
def breakAt (s : Bs) (i : Int) : Nat := if i < 0 ∨ (s.length : Int) ≤ i then 0 else breakR (s.drop i.toNat)
theorem hasPrefix_f (s p : ByteArray) : strings_HasPrefix.f s p = some (decide ((toBs s).take p.size = toBs p)) := by
  unfold strings_HasPrefix.f stringslite_HasPrefix.f
  by_cases h : (s.size : Int) ≥ (p.size : Int)
  · rw [if_pos h, if_pos (by omega), if_pos (by omega), Option.bind_some]
    have e : (s.extract 0 ((p.size : Int)).toNat).toList = (toBs s).take p.size := by
      rw [toList_toBs, toBs_extract, Int.toNat_natCast, List.drop_zero]
    rw [e, toList_toBs]
    by_cases h2 : (toBs s).take p.size = toBs p <;> simp [h2]
  · rw [if_neg h, Option.bind_some]
    have : ¬ (toBs s).take p.size = toBs p := by
      intro e
      have e2 := congrArg List.length e
      rw [List.length_take, size_toBs, size_toBs] at e2
      omega
    simp [this]
theorem extract_nat (s : ByteArray) (i : Nat) : toBs (s.extract ((i : Int)).toNat s.size) = (toBs s).drop i := by
  rw [Int.toNat_natCast]; exact Lib.extract_to_end s i
theorem breakR_other (c : UInt8) (r : Bs) (h : c ≠ 10) : breakR (c :: r) = if (c :: r).take 2 = [13, 10] then 2 else 0 := by
  cases r with
  | nil => simp [breakR, h]
  | cons d r =>
    have e : ((c :: d :: r).take 2 = [13, 10]) ↔ (c = 13 ∧ d = 10) := by simp
    by_cases h2 : c = 13 ∧ d = 10
    · rw [if_pos (e.2 h2)]; simp [breakR, h, h2]
    · rw [if_neg (fun x => h2 (e.1 x))]
      simp only [breakR, if_neg h, if_neg h2]
theorem b10 {c : UInt8} : ((c.toNat : Int) = 10) ↔ c = 10 := ⟨fun h => Classical.byContradiction fun n => u8_int_ne 10 n h, fun h => u8_int_eq 10 h⟩
theorem b13 {c : UInt8} : ((c.toNat : Int) = 13) ↔ c = 13 := ⟨fun h => Classical.byContradiction fun n => u8_int_ne 13 n h, fun h => u8_int_eq 13 h⟩
theorem b34 {c : UInt8} : ((c.toNat : Int) = 34) ↔ c = 34 := ⟨fun h => Classical.byContradiction fun n => u8_int_ne 34 n h, fun h => u8_int_eq 34 h⟩
theorem endR_cons (c : UInt8) (r : Bs) (d : Int) : endR (c :: r) d = if (c.toNat : Int) = d then (1, 1) else if breakR (c :: r) = 0 then (0, 0) else (2, breakR (c :: r)) := rfl
theorem lex_Break_at (s : ByteArray) (i k : Nat) (hi : i < s.size) : lex_Break.f (k + 1) s i = some ((breakR ((toBs s).drop i) : Nat) : Int) := by
  unfold lex_Break.f
  rw [if_neg (by omega), decide_eq_false (by omega)]
  simp only [lex_Break.j0]
  rw [if_neg (by decide), if_pos (by omega), if_pos (by omega), bt_nat s i hi]
  have e := drop_toBs s i hi
  by_cases hc : s[i] = 10
  · rw [if_pos (b10.2 hc), e, hc]
    cases (toBs s).drop (i + 1) <;> rfl
  · rw [if_neg (fun h => hc (b10.1 h)), if_pos (by omega), hasPrefix_f, Option.bind_some, extract_nat, e, breakR_other _ _ hc]
    have e2 : toBs (⟨#[13, 10]⟩ : ByteArray) = [13, 10] := by decide
    have e3 : (⟨#[13, 10]⟩ : ByteArray).size = 2 := rfl
    rw [e2, e3]
    by_cases h2 : List.take 2 (s[i] :: List.drop (i + 1) (toBs s)) = [13, 10]
    · rw [decide_eq_true h2, if_pos h2]; rfl
    · rw [decide_eq_false h2, if_neg h2]; rfl
theorem lex_Break_f (s : ByteArray) (i : Int) (k : Nat) : lex_Break.f (k + 1) s i = some ((breakAt (toBs s) i : Nat) : Int) := by
  unfold breakAt
  by_cases h : i < 0 ∨ ((toBs s).length : Int) ≤ i
  · rw [if_pos h]
    rw [size_toBs] at h
    unfold lex_Break.f
    rcases h with h | h
    · rw [if_pos h]; simp only [lex_Break.j0]; rfl
    · rw [if_neg (by omega), decide_eq_true h]; simp only [lex_Break.j0]; rfl
  · rw [if_neg h]
    rw [size_toBs] at h
    obtain ⟨n, rfl⟩ := Int.eq_ofNat_of_zero_le (show 0 ≤ i by omega)
    rw [lex_Break_at s n k (by omega)]; rfl
theorem ref02_Break_at (s : ByteArray) (i k : Nat) (hi : i < s.size) (hs : s.size ≤ 140737488351232) : tartanref02_Break.f (k + 1) s i = some ((breakR ((toBs s).drop i) : Nat) : Int) := by
  unfold tartanref02_Break.f
  rw [if_neg (by omega), decide_eq_false (by omega)]
  simp only [tartanref02_Break.j0]
  have e1 := wrap_succ hi hs 1 (by omega)
  rw [show ((1 : Nat) : Int) = 1 from rfl] at e1
  rw [if_neg (by decide), if_pos (by omega), if_pos (by omega), bt_nat s i hi, e1]
  have e := drop_toBs s i hi
  by_cases hc : s[i] = 10
  · rw [if_pos (b10.2 hc), e, hc]
    cases (toBs s).drop (i + 1) <;> rfl
  · rw [if_neg (fun h => hc (b10.1 h)), e]
    by_cases h13 : s[i] = 13
    · rw [if_pos (b13.2 h13)]
      by_cases h2 : i + 1 < s.size
      · rw [if_pos (by omega), if_pos (by omega), bt_nat s (i + 1) h2, drop_toBs s (i + 1) h2]
        by_cases h10 : s[i + 1] = 10
        · rw [if_pos (b10.2 h10), h13, h10]; rfl
        · rw [if_neg (fun h => h10 (b10.1 h))]; simp [breakR, h10, h13]
      · rw [if_neg (by omega), List.drop_eq_nil_of_le (by rw [size_toBs]; omega), h13]; rfl
    · rw [if_neg (fun h => h13 (b13.1 h))]
      cases (toBs s).drop (i + 1) <;> simp [breakR, hc, h13]
theorem ref02_Break_f (s : ByteArray) (i : Int) (k : Nat) (hs : s.size ≤ 140737488351232) : tartanref02_Break.f (k + 1) s i = some ((breakAt (toBs s) i : Nat) : Int) := by
  unfold breakAt
  by_cases h : i < 0 ∨ ((toBs s).length : Int) ≤ i
  · rw [if_pos h]
    rw [size_toBs] at h
    unfold tartanref02_Break.f
    rcases h with h | h
    · rw [if_pos h]; simp only [tartanref02_Break.j0]; rfl
    · rw [if_neg (by omega), decide_eq_true h]; simp only [tartanref02_Break.j0]; rfl
  · rw [if_neg h]
    rw [size_toBs] at h
    obtain ⟨n, rfl⟩ := Int.eq_ofNat_of_zero_le (show 0 ≤ i by omega)
    rw [ref02_Break_at s n k (by omega) hs]; rfl
theorem wrap_nat (a b : Nat) (h : a + b ≤ 9223372036854775807) : wrap64 ((a : Int) + (b : Int)) = ((a + b : Nat) : Int) := by unfold wrap64; omega
theorem lex_end_f (s : ByteArray) (i k : Nat) (d : Int) (hi : i ≤ s.size) (hs : s.size ≤ 140737488351232) :
    lex_end.f (k + 1) s i d = some (((endR ((toBs s).drop i) d).1 : Int), ((i + (endR ((toBs s).drop i) d).2 : Nat) : Int)) := by
  unfold lex_end.f
  by_cases h : i = s.size
  · rw [if_pos (by omega), endR_nil s d i (by omega)]; rfl
  · have hlt : i < s.size := by omega
    rw [if_neg (by omega), if_pos (by omega), if_pos (by omega), bt_nat s i hlt, lex_Break_at s i k hlt, Option.bind_some]
    have hb := breakR_le ((toBs s).drop i)
    rw [wrap_nat i _ (by omega), show wrap64 ((i : Int) + 1) = ((i + 1 : Nat) : Int) from wrap_nat i 1 (by omega)]
    rw [drop_toBs s i hlt] at hb ⊢
    rw [endR_cons]
    by_cases hd : (s[i].toNat : Int) = d
    · rw [if_pos hd, if_pos hd]; rfl
    · rw [if_neg hd, if_neg hd]
      by_cases h0 : breakR (s[i] :: (toBs s).drop (i + 1)) = 0
      · rw [if_pos h0, if_neg (by omega)]; rfl
      · rw [if_neg h0, if_pos (by omega)]; rfl
theorem ref02_ends_f (s : ByteArray) (i k : Nat) (d : Int) (hi : i ≤ s.size) (hs : s.size ≤ 140737488351232) :
    tartanref02_ends.f (k + 1) s i d = some (((endR ((toBs s).drop i) d).1 : Int), ((i + (endR ((toBs s).drop i) d).2 : Nat) : Int)) := by
  unfold tartanref02_ends.f
  by_cases h : i = s.size
  · rw [if_pos (by omega), endR_nil s d i (by omega), h]; rfl
  · have hlt : i < s.size := by omega
    rw [if_neg (by omega), if_pos (by omega), if_pos (by omega), bt_nat s i hlt, ref02_Break_at s i k hlt hs, Option.bind_some]
    have hb := breakR_le ((toBs s).drop i)
    rw [wrap_nat i _ (by omega), show wrap64 ((i : Int) + 1) = ((i + 1 : Nat) : Int) from wrap_nat i 1 (by omega)]
    rw [drop_toBs s i hlt] at hb ⊢
    rw [endR_cons]
    by_cases hd : (s[i].toNat : Int) = d
    · rw [if_pos hd, if_pos hd]; rfl
    · rw [if_neg hd, if_neg hd]
      by_cases h0 : breakR (s[i] :: (toBs s).drop (i + 1)) = 0
      · rw [if_pos h0, if_neg (by omega)]; rfl
      · rw [if_neg h0, if_pos (by omega)]; rfl
theorem getq_le (l : Bs) : (getq l).2.1 ≤ l.length := by
  by_cases h : (getq l).2.2 = 0
  · exact (getq_only l (getq l).1 (getq l).2.1 (by rw [← h])).2.1
  · rw [(getq_fault l h).2]; exact Nat.zero_le _
theorem lex_quoted_f (s : ByteArray) (i k : Nat) (d : Int) (hi : i ≤ s.size) (hs : s.size ≤ 1048576) :
    lex_quoted.f (k + 1) s i d = some (ofBs (quotedF d ((toBs s).drop i)).1, ((i + (quotedF d ((toBs s).drop i)).2.1 : Nat) : Int), ((quotedF d ((toBs s).drop i)).2.2.1 : Int), ((quotedF d ((toBs s).drop i)).2.2.2 : Int)) := by
  unfold lex_quoted.f
  rw [if_pos (by omega), if_pos (by omega), quote_Get_f _ (by rw [ByteArray.size_extract]; omega), Option.bind_some, extract_nat]
  have hn := getq_le ((toBs s).drop i)
  rw [List.length_drop, size_toBs] at hn
  unfold quotedF
  dsimp only
  by_cases h0 : (getq ((toBs s).drop i)).2.2 = 0
  · rw [if_pos (by omega), if_pos h0, wrap_nat i _ (by omega), lex_end_f s _ k d (by omega) (by omega), Option.bind_some]
    dsimp only
    have e : List.drop (getq ((toBs s).drop i)).2.1 ((toBs s).drop i) = (toBs s).drop (i + (getq ((toBs s).drop i)).2.1) := by rw [List.drop_drop]
    rw [e]
    by_cases h1 : (endR ((toBs s).drop (i + (getq ((toBs s).drop i)).2.1)) d).1 = 0
    · rw [if_pos (by omega), if_pos h1]; rfl
    · rw [if_neg (by omega), if_neg h1]; simp only [Nat.add_assoc]; rfl
  · rw [if_neg (by omega), if_neg h0]; rfl
end Go.Proofs.Ytggodagdfldndaa.Q.L
