/- Plain laws of arrows: what an arrow is, where it is found, what is split by it. No Go in it. -/
import Derived.Test.YtggodagdfldndaaDoorS
import Derived.Lib.IndexLaws
namespace Go.Proofs.YtggodagdfldndaaDoor
/-- How long an arrow is. -/
def isR (l : Bs) : Nat := if l = arrowB (l.length - 1) ∧ 2 ≤ l.length then l.length - 1 else 0
/-- What a cell is split into. -/
def splitR (l w : Bs) : Bs × Bs × Bool :=
  if isR w = 0 then ([], [], false) else if 0 ≤ Lib.index l w then (l.take (Lib.index l w).toNat, l.drop ((Lib.index l w).toNat + w.length), true) else ([], [], false)
theorem dw_nil (p : UInt8 → Bool) : ∀ l : Bs, l.dropWhile p = [] → ∀ x ∈ l, p x = true
  | [], _, _, h => by cases h
  | y :: l, h, x, hx => by
    rw [List.dropWhile_cons] at h
    split at h
    · rename_i hy
      rcases List.mem_cons.1 hx with rfl | hx
      · exact hy
      · exact dw_nil p l h x hx
    · cases h
theorem dw_all (p : UInt8 → Bool) : ∀ l : Bs, (∀ x ∈ l, p x = true) → l.dropWhile p = []
  | [], _ => rfl
  | y :: l, h => by
    rw [List.dropWhile_cons, if_pos (h y (by simp))]
    exact dw_all p l (fun x hx => h x (List.mem_cons_of_mem _ hx))
theorem dw_head (p : UInt8 → Bool) : ∀ (l : Bs) (x : UInt8) (r : Bs), l.dropWhile p = x :: r → p x = false
  | [], _, _, h => by cases h
  | y :: l, x, r, h => by
    rw [List.dropWhile_cons] at h
    split at h
    · exact dw_head p l x r h
    · rename_i hy
      rw [← (List.cons.inj h).1]
      simpa using hy
theorem trim_nil (t : Bs) : Lib.trimB t 45 = [] ↔ t = List.replicate t.length 45 := by
  constructor
  · intro h
    have h1 := dw_nil _ _ h
    have h2 : t.reverse.dropWhile (· == 45) = [] := by
      cases hx : t.reverse.dropWhile (· == 45) with
      | nil => rfl
      | cons x r =>
        have h3 := dw_head _ _ _ _ hx
        have h4 := h1 x (by unfold Lib.trimRightB; rw [hx]; simp)
        rw [h3] at h4; cases h4
    have h5 := dw_nil _ _ h2
    refine List.eq_replicate_iff.2 ⟨rfl, fun x hx => ?_⟩
    have := h5 x (List.mem_reverse.2 hx)
    simpa using this
  · intro h
    have h1 : ∀ x ∈ t, (x == 45) = true := by
      intro x hx
      rw [h] at hx
      simpa using List.eq_of_mem_replicate hx
    have h2 : Lib.trimRightB t 45 = [] := by
      unfold Lib.trimRightB
      rw [dw_all _ _ (fun x hx => h1 x (List.mem_reverse.1 hx))]; rfl
    unfold Lib.trimB
    rw [h2]; rfl
/-- As arrow.Is reckons it. -/
theorem is_eq (l : Bs) : (if Lib.hasSuffix l [62] = true then (if Lib.trimB (Lib.trimSuffix l [62]) 45 = [] then (Lib.trimSuffix l [62]).length else 0) else 0) = isR l := by
  unfold isR
  by_cases h : Lib.hasSuffix l [62] = true
  · rw [if_pos h]
    have h2 := h
    unfold Lib.hasSuffix at h2
    rw [List.isSuffixOf_iff_suffix] at h2
    obtain ⟨t, rfl⟩ := h2
    have e1 : Lib.trimSuffix (t ++ [62]) [62] = t := by
      unfold Lib.trimSuffix
      rw [if_pos h]
      simp
    rw [e1, List.length_append, List.length_singleton, Nat.add_sub_cancel]
    by_cases h3 : Lib.trimB t 45 = []
    · rw [if_pos h3]
      have h4 := (trim_nil t).1 h3
      have h5 : t ++ [62] = arrowB t.length := by unfold arrowB; rw [← h4]
      by_cases h6 : 2 ≤ t.length + 1
      · rw [if_pos ⟨h5, h6⟩]
      · rw [if_neg (fun h => h6 h.2)]; omega
    · rw [if_neg h3, if_neg]
      rintro ⟨h4, _⟩
      apply h3
      apply (trim_nil t).2
      unfold arrowB at h4
      exact (List.append_inj h4 (by simp)).1
  · rw [if_neg h, if_neg]
    rintro ⟨h4, _⟩
    apply h
    unfold Lib.hasSuffix
    rw [List.isSuffixOf_iff_suffix, h4]
    exact ⟨_, rfl⟩
theorem isR_arrow (n : Nat) : isR (arrowB n) = n := by
  unfold isR
  rw [arrowB_length, Nat.add_sub_cancel]
  by_cases h : 2 ≤ n + 1
  · rw [if_pos ⟨rfl, h⟩]
  · rw [if_neg (fun h2 => h h2.2)]; omega
theorem isR_pos {w : Bs} (h : isR w ≠ 0) : w = arrowB (isR w) ∧ 1 ≤ isR w := by
  unfold isR at h ⊢
  split
  · rename_i h2
    exact ⟨h2.1, by omega⟩
  · rename_i h2
    rw [if_neg h2] at h; exact absurd rfl h
theorem occAt_iff (s p : Bs) (i : Nat) : Lib.occAt s p i = true ↔ p <+: s.drop i := by
  unfold Lib.occAt
  exact List.isPrefixOf_iff_prefix
/-- Where it is found: the text is what stands ahead, it, and what stands behind. -/
theorem found {l w : Bs} (h : 0 ≤ Lib.index l w) : l = l.take (Lib.index l w).toNat ++ (w ++ l.drop ((Lib.index l w).toNat + w.length)) ∧ Lib.index (l.take (Lib.index l w).toNat) w < 0 ∨ w = [] := by
  by_cases hw : w = []
  · exact Or.inr hw
  left
  rcases Lib.index_spec l w with ⟨h1, _⟩ | ⟨i, h1, h2, h3, h4⟩
  · omega
  · rw [h1, Int.toNat_natCast]
    obtain ⟨r, hr⟩ := (occAt_iff l w i).1 h3
    refine ⟨?_, ?_⟩
    · rw [← List.drop_drop, ← hr, List.drop_left, hr, List.take_append_drop]
    · rcases Lib.index_spec (l.take i) w with ⟨g1, _⟩ | ⟨j, g1, g2, g3, _⟩
      · omega
      · exfalso
        obtain ⟨r2, hr2⟩ := (occAt_iff _ w j).1 g3
        have hwl : 1 ≤ w.length := List.length_pos_iff.2 hw
        have hlen := congrArg List.length hr2
        rw [List.length_append, List.length_drop, List.length_take] at hlen
        have hj : j < i := by omega
        have := h4 j hj
        rw [Bool.eq_false_iff] at this
        apply this
        rw [occAt_iff]
        have e1 : l.drop j = (l.take i).drop j ++ l.drop i := by
          have h5 : l = l.take i ++ l.drop i := (List.take_append_drop i l).symm
          conv => lhs; rw [h5]
          rw [List.drop_append_of_le_length (by rw [List.length_take]; omega)]
        rw [e1, ← hr2, List.append_assoc]
        exact ⟨_, rfl⟩
theorem has_iff (w : Bs) (x : ByteArray) : has w x = true ↔ 0 ≤ Lib.index (toBs x) w := by
  unfold has Lib.contains
  exact decide_eq_true_iff
/-- No arrow reaches over the place where the same one begins. -/
theorem arrow_place (a b : Bs) (n : Nat) (h : Lib.index a (arrowB n) < 0) : Lib.index (a ++ (arrowB n ++ b)) (arrowB n) = a.length := by
  refine Lib.index_first (by simp) ?_ ?_
  · rw [occAt_iff, List.drop_left]; exact ⟨b, rfl⟩
  · intro j hj
    rw [Bool.eq_false_iff]
    intro ho
    obtain ⟨r, hr⟩ := (occAt_iff _ _ j).1 ho
    -- the sign behind the shaft
    have e62 : ((a ++ (arrowB n ++ b)).drop j)[n]? = some 62 := by
      rw [← hr]
      unfold arrowB
      rw [List.append_assoc, List.getElem?_append_right (by simp)]
      simp
    rw [List.getElem?_drop] at e62
    by_cases hin : j + n < a.length
    · -- it lies ahead of it: then it is in there
      rcases Lib.index_spec a (arrowB n) with ⟨_, g2⟩ | ⟨i, g1, _⟩
      · have := g2 j (by omega)
        rw [Bool.eq_false_iff] at this
        apply this
        rw [occAt_iff]
        rw [List.drop_append_of_le_length (by omega)] at hr
        have hl : (arrowB n).length ≤ (a.drop j).length := by rw [arrowB_length, List.length_drop]; omega
        have : arrowB n = (a.drop j).take (arrowB n).length := by
          have h5 := congrArg (List.take (arrowB n).length) hr
          rw [List.take_left, List.take_append_of_le_length hl] at h5
          exact h5
        rw [this]
        exact ⟨_, List.take_append_drop _ _⟩
      · rw [g1] at h; omega
    · rw [List.getElem?_append_right (by omega)] at e62
      unfold arrowB at e62
      rw [List.append_assoc, List.getElem?_append_left (by simp; omega), List.getElem?_replicate, if_pos (by omega)] at e62
      cases e62
/-- The shortest arrow: it is in none, each shorter one is in one. -/
theorem shortest_spec (l : List ByteArray) (hf : Few l) : 1 ≤ arrowN l ∧ arrowN l ≤ 10000 ∧ l.any (has (arrowB (arrowN l))) = false ∧ ∀ j, 1 ≤ j → j < arrowN l → l.any (has (arrowB j)) = true := by
  have key : ∀ (k n : Nat), 10000 ≤ n + k → n ≤ 10000 → (∀ j, 1 ≤ j → j < n → l.any (has (arrowB j)) = true) → 1 ≤ n → 1 ≤ shortest l k n ∧ shortest l k n ≤ 10000 ∧ l.any (has (arrowB (shortest l k n))) = false ∧ ∀ j, 1 ≤ j → j < shortest l k n → l.any (has (arrowB j)) = true := by
    intro k
    induction k with
    | zero =>
      intro n h1 h2 h3 h4
      refine ⟨h4, h2, ?_, h3⟩
      cases h : l.any (has (arrowB n)) with
      | false => exact h
      | true => have := any_le hf h; omega
    | succ k ih =>
      intro n h1 h2 h3 h4
      rw [shortest]
      cases h : l.any (has (arrowB n)) with
      | false => rw [if_neg (by decide)]; exact ⟨h4, h2, h, h3⟩
      | true =>
        rw [if_pos rfl]
        have := any_le hf h
        exact ih (n + 1) (by omega) (by omega) (fun j j1 j2 => by
          by_cases e : j = n
          · rw [e]; exact h
          · exact h3 j j1 (by omega)) (by omega)
  exact key 20000 1 (by omega) (by omega) (fun j j1 j2 => by omega) (Nat.le_refl 1)
end Go.Proofs.YtggodagdfldndaaDoor
