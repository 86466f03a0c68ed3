/- Plain laws of chapter 1 (quoted cells): what is quoted is got back, and only that; unlike cells are written unlike. No Go in it. -/
import Derived.Test.YtggodagdfldndaaS
namespace Go.Proofs.Ytggodagdfldndaa

/-! ### cells as they are written -/
def goodI (d : Int) : Bool := d != 34 && (d != 13 && d != 10)
def plain (l : Bs) (d : Int) : Bool := l.all fun c => (c.toNat : Int) != d && goodI c.toNat
def put (l : Bs) (d : Int) : Bs := if plain l d = true then l else quoted l
theorem plain_append (a b : Bs) (d : Int) : plain (a ++ b) d = (plain a d && plain b d) := by simp [plain, List.all_append]
theorem plain_no_quote {l : Bs} {d : Int} (h : plain l d = true) : (34 : UInt8) ∉ l := by
  intro hm
  have := (List.all_eq_true.1 h) _ hm
  revert this
  simp [goodI]
theorem toList_ofBs (l : Bs) : (ofBs l).toList = l := by rw [Lib.toList_data]; exact toBs_ofBs l
theorem toList_toBs (s : ByteArray) : s.toList = toBs s := Lib.toList_data s
theorem toBs_append (a b : ByteArray) : toBs (a ++ b) = toBs a ++ toBs b := by simp [toBs]
theorem ofBs_append (a b : Bs) : ofBs (a ++ b) = ofBs a ++ ofBs b := by
  rw [← ofBs_toBs (ofBs a ++ ofBs b), toBs_append, toBs_ofBs, toBs_ofBs]
theorem eq_ofBs {s : ByteArray} {l : Bs} (h : toBs s = l) : s = ofBs l := by rw [← h, ofBs_toBs]
theorem twice_of_plain {l : Bs} (h : (34 : UInt8) ∉ l) : twice l = l := by
  induction l with
  | nil => rfl
  | cons c r ih =>
    simp only [List.mem_cons, not_or] at h
    rw [twice, if_neg (fun e => h.1 e.symm), ih h.2]
theorem twice_length (l : Bs) : (twice l).length = l.length + l.count 34 := by
  induction l with
  | nil => rfl
  | cons c r ih =>
    by_cases h : c = 34
    · subst h; simp [twice, ih]; omega
    · rw [twice, if_neg h, List.length_cons, ih, List.length_cons, List.count_cons_of_ne h]; omega
theorem quoted_length (l : Bs) : (quoted l).length = l.length + l.count 34 + 2 := by simp [quoted, twice_length]

/-! ### what is quoted is got back, and only that -/
/-- What stands behind does not begin with a quote. -/
def NoQ (b : Bs) : Prop := ∀ c r, b = c :: r → c ≠ 34
theorem scan_quoted (l b : Bs) (h : NoQ b) : scan (twice l ++ 34 :: b) = some (l, (twice l).length + 1) := by
  induction l with
  | nil =>
    cases b with
    | nil => simp [twice, scan]
    | cons c r => have := h c r rfl; simp [twice, scan, this]
  | cons c r ih =>
    by_cases hc : c = 34
    · subst hc
      have e : twice (34 :: r) = 34 :: 34 :: twice r := by simp [twice]
      rw [e, List.cons_append, List.cons_append, scan_twice, ih]; simp
    · rw [twice, if_neg hc, List.cons_append, scan_other _ hc, ih]; simp
theorem getq_quoted (l b : Bs) (h : NoQ b) : getq (quoted l ++ b) = (l, (quoted l).length, 0) := by
  have e : quoted l ++ b = 34 :: (twice l ++ 34 :: b) := by simp [quoted]
  rw [e, getq, if_pos rfl, scan_quoted l b h]
  simp [quoted]
theorem scan_only : ∀ (s l : Bs) (n : Nat), scan s = some (l, n) → 1 ≤ n ∧ n ≤ s.length ∧ s.take n = twice l ++ [34] ∧ NoQ (s.drop n)
  | [], l, n, h => by simp [scan] at h
  | [c], l, n, h => by
    simp only [scan] at h
    split at h
    · rename_i hc
      simp only [Option.some.injEq, Prod.mk.injEq] at h
      obtain ⟨rfl, rfl⟩ := h
      refine ⟨by omega, by simp, by simp [twice, hc], ?_⟩
      intro c r e; simp at e
    · cases h
  | c :: d :: r, l, n, h => by
    simp only [scan] at h
    split at h
    · rename_i hc
      split at h
      · rename_i hd
        obtain ⟨⟨l', n'⟩, hs, he⟩ := Option.map_eq_some_iff.1 h
        simp only [Prod.mk.injEq] at he
        obtain ⟨rfl, rfl⟩ := he
        obtain ⟨h1, h2, h3, h4⟩ := scan_only r l' n' hs
        refine ⟨by omega, by simp; omega, ?_, by simpa using h4⟩
        rw [hc, hd]
        simp [twice, h3]
      · rename_i hd
        simp only [Option.some.injEq, Prod.mk.injEq] at h
        obtain ⟨rfl, rfl⟩ := h
        refine ⟨by omega, by simp, by simp [twice, hc], ?_⟩
        intro c' r' e
        simp at e
        exact e.1 ▸ hd
    · rename_i hc
      obtain ⟨⟨l', n'⟩, hs, he⟩ := Option.map_eq_some_iff.1 h
      simp only [Prod.mk.injEq] at he
      obtain ⟨rfl, rfl⟩ := he
      obtain ⟨h1, h2, h3, h4⟩ := scan_only (d :: r) l' n' hs
      refine ⟨by omega, by simp at h2 ⊢; omega, ?_, by simpa using h4⟩
      rw [List.take_succ_cons, h3, twice, if_neg hc]; rfl
theorem getq_only (s l : Bs) (n : Nat) (h : getq s = (l, n, 0)) : 2 ≤ n ∧ n ≤ s.length ∧ s.take n = quoted l ∧ NoQ (s.drop n) := by
  cases s with
  | nil => simp [getq] at h
  | cons c r =>
    simp only [getq] at h
    split at h
    · rename_i hc
      split at h
      · simp at h
      · rename_i p hp
        simp only [Prod.mk.injEq] at h
        obtain ⟨rfl, rfl, _⟩ := h
        obtain ⟨h1, h2, h3, h4⟩ := scan_only r p.1 p.2 hp
        refine ⟨by omega, by simp; omega, ?_, by simpa using h4⟩
        rw [List.take_succ_cons, h3, hc]; rfl
    · simp at h
theorem getq_fault (s : Bs) (h : (getq s).2.2 ≠ 0) : (getq s).1 = [] ∧ (getq s).2.1 = 0 := by
  cases s with
  | nil => exact ⟨rfl, rfl⟩
  | cons c r =>
    by_cases hc : c = 34
    · simp only [getq, if_pos hc] at h ⊢
      cases hs : scan r with
      | none => exact ⟨rfl, rfl⟩
      | some p => rw [hs] at h; exact absurd rfl h
    · simp only [getq, if_neg hc]; exact ⟨trivial, trivial⟩
theorem quoted_inj {a b : Bs} (h : quoted a = quoted b) : a = b := by
  have h1 := getq_quoted a [] (fun c r e => by cases e)
  have h2 := getq_quoted b [] (fun c r e => by cases e)
  rw [List.append_nil] at h1 h2
  rw [h, h2] at h1
  exact (congrArg Prod.fst h1).symm
theorem quoted_has_quote (l : Bs) : (34 : UInt8) ∈ quoted l := by simp [quoted]
theorem put_inj {a b : Bs} {d : Int} (h : put a d = put b d) : a = b := by
  unfold put at h
  split at h
  · rename_i ha
    split at h
    · exact h
    · have := plain_no_quote ha; rw [h] at this; exact absurd (quoted_has_quote b) this
  · split at h
    · rename_i hb; have := plain_no_quote hb; rw [← h] at this; exact absurd (quoted_has_quote a) this
    · exact quoted_inj h
end Go.Proofs.Ytggodagdfldndaa
