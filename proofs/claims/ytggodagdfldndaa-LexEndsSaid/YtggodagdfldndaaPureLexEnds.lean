/- A field is written plainly or in quotes, and ends where it is told to end; a fault lies in the text: for every input the law answers true. Conditions: none. -/
import Derived.Test.YtggodagdfldndaaM6
import Derived.Test.YtggodagdfldndaaPM
namespace Go.Proofs.Ytggodagdfldndaa.Pure
open Go.RowKit Go.Proofs.Ytggodagdfldndaa.Q.L.M Go.Proofs.Ytggodagdfldndaa.Q.L Go.Proofs.Ytggodagdfldndaa.Q Go.Proofs.YtggodagdfldndaaW.PrintWords Go.Proofs.YtggodagdfldndaaW.PrintLast

theorem endR_kinds (d : Int) : ∀ l : Bs, (endR l d).1 = 0 ∨ ((endR l d).1 = 3 ∧ l = [] ∧ (endR l d).2 = 0) ∨ ((endR l d).1 = 1 ∧ ∃ c r, l = c :: r ∧ (c.toNat : Int) = d ∧ (endR l d).2 = 1) ∨ ((endR l d).1 = 2 ∧ (endR l d).2 = breakR l ∧ breakR l ≠ 0)
  | [] => Or.inr (Or.inl ⟨rfl, rfl, rfl⟩)
  | c :: r => by
    simp only [endR]
    by_cases h : (c.toNat : Int) = d
    · rw [if_pos h]; exact Or.inr (Or.inr (Or.inl ⟨rfl, c, r, rfl, h, rfl⟩))
    · rw [if_neg h]
      by_cases h2 : breakR (c :: r) = 0
      · rw [if_pos h2]; exact Or.inl rfl
      · rw [if_neg h2]; exact Or.inr (Or.inr (Or.inr ⟨rfl, rfl, h2⟩))
theorem breakR_shape (l : Bs) (h : breakR l ≠ 0) : (breakR l = 1 ∧ ∃ r, l = 10 :: r) ∨ (breakR l = 2 ∧ ∃ r, l = 13 :: 10 :: r) := by
  cases l with
  | nil => exact absurd rfl h
  | cons c r =>
    cases r with
    | nil =>
      by_cases hc : c = 10
      · subst hc; exact Or.inl ⟨rfl, [], rfl⟩
      · simp [breakR, hc] at h
    | cons e r =>
      by_cases hc : c = 10
      · subst hc; exact Or.inl ⟨by simp [breakR], e :: r, rfl⟩
      · by_cases hh : c = 13 ∧ e = 10
        · obtain ⟨rfl, rfl⟩ := hh
          exact Or.inr ⟨by simp [breakR], r, rfl⟩
        · simp [breakR, hc, hh] at h
/-- What stands from a place to another, as the law cuts it. -/
theorem cut_eq (s : ByteArray) (n : Nat) (t rest : Bs) (h : (toBs s).drop n = t ++ rest) : toBs (s.extract n (n + t.length)) = t := by
  rw [toBs_extract, List.drop_take, Nat.add_sub_cancel_left, h, List.take_left]
theorem said (x c : ByteArray) (hs : c.size ≤ 1048576) (h : toBs x = toBs c ∨ toBs x = quoted (toBs c)) :
    (if x.toList = c.toList then some true else (quote_Quoted.f c).bind fun t => some (x.toList == t.toList)) = some true := by
  simp only [toList_toBs]
  by_cases e : toBs x = toBs c
  · rw [if_pos e]
  · rw [if_neg e, quote_Quoted_f c hs, Option.bind_some]
    rcases h with h | h
    · exact absurd h e
    · rw [h, toBs_ofBs]; simp
theorem byte_at (s : ByteArray) (n : Nat) (t rest : Bs) (c : UInt8) (r : Bs) (h : (toBs s).drop n = t ++ rest) (hr : rest = c :: r) : bt s ((n + t.length : Nat) : Int) = (c.toNat : Int) := by
  have hlt : n + t.length < s.size := by
    have := congrArg List.length h
    rw [List.length_drop, size_toBs, hr] at this
    simp at this; omega
  rw [bt_nat s _ hlt]
  have e := drop_toBs s (n + t.length) hlt
  rw [← List.drop_drop, h, List.drop_left, hr] at e
  rw [(List.cons.inj e).1]
/-- The one pure statement of the law. -/
theorem LexEnds : tartanlaw02_LexEnds.Pure := by
  intro s a d hs _ _
  obtain ⟨K, hK⟩ : ∃ K : Nat, 5000 < K := ⟨5001, by omega⟩
  refine ⟨K + 4, ?_⟩
  unfold tartanlaw02_LexEnds.f
  rw [works02 _ (by omega), Option.bind_some, if_pos rfl]
  by_cases h1 : (s.size : Int) > 2000
  · rw [if_pos h1]
  · rw [if_neg h1, lex_Field_f s a d (by omega), Option.bind_some]
    unfold outF field
    by_cases h0 : a < 0 ∨ ((toBs s).length : Int) < a
    · rw [if_pos h0]
      dsimp only
      rw [if_neg (by decide), if_pos (toList_ofBs []), if_pos (by decide), if_pos (by decide)]
    · rw [if_neg h0]
      rw [size_toBs] at h0
      obtain ⟨n, rfl⟩ := Int.eq_ofNat_of_zero_le (show 0 ≤ a by omega)
      have hn : n ≤ s.size := by omega
      by_cases hg : goodI d = true
      · rw [if_pos hg]
        dsimp only
        rw [Int.toNat_natCast]
        by_cases he : (fieldR d ((toBs s).drop n)).2.2.2 = 0
        · rw [if_pos (by omega), if_neg (by omega)]
          obtain ⟨t, rest, e1, e2, e3, e4, e5, e6⟩ := fieldR_ok d _ he
          have hlen := congrArg List.length e1
          rw [List.length_drop, size_toBs, List.length_append] at hlen
          have hcs : (ofBs (fieldR d ((toBs s).drop n)).1).size ≤ 1048576 := by
            rw [size_ofBs]
            rcases e2 with e2 | e2
            · rw [← e2]; omega
            · have := quoted_length (fieldR d ((toBs s).drop n)).1
              rw [← e2] at this; omega
          have e2' : toBs (s.extract n (n + t.length)) = toBs (ofBs (fieldR d ((toBs s).drop n)).1) ∨ toBs (s.extract n (n + t.length)) = quoted (toBs (ofBs (fieldR d ((toBs s).drop n)).1)) := by
            rw [cut_eq s n t rest e1, toBs_ofBs]; exact e2
          have hle := (endR_le rest d).1
          generalize (ofBs (fieldR d ((toBs s).drop n)).1) = C at hcs e2' ⊢
          generalize (fieldR d ((toBs s).drop n)).2.1 = N at e5 ⊢
          generalize (fieldR d ((toBs s).drop n)).2.2.1 = Kd at e4 ⊢
          rw [if_neg (by omega), decide_eq_false (by omega)]
          simp only [tartanlaw02_LexEnds.j0]
          rw [if_neg (by decide)]
          have final : ∀ back : Nat, N = t.length + back → 1 ≤ back ∧ back ≤ 2 → back ≤ rest.length → Kd ≠ 3 → (Kd = 1 → back = 1 ∧ ∃ c r, rest = c :: r ∧ (c.toNat : Int) = d) → (Kd = 1 ∨ (Kd = 2 ∧ breakR rest = back)) →
              tartanlaw02_LexEnds.j2 (K + 2) s n d true C ((n : Int) + (N : Int)) (Kd : Int) (back : Int) = some true := by
            intro back hN ⟨hb1', hb2⟩ hbr h3 hk1 hk2
            simp only [tartanlaw02_LexEnds.j2]
            have ew : wrap64 ((n : Int) + (N : Int) - (back : Int)) = ((n + t.length : Nat) : Int) := by clear hk1 hk2; unfold wrap64; omega
            rw [ew, if_neg (by clear hk1 hk2; omega), if_pos (by clear hk1 hk2; omega), if_pos (by clear hk1 hk2; omega), if_pos (by clear hk1 hk2; omega)]
            simp only [Int.toNat_natCast]
            rcases hk2 with hk | ⟨hk, hbk⟩
            · obtain ⟨hb1, c, r, hc1, hc2⟩ := hk1 hk
              have ew2 : wrap64 ((n : Int) + (N : Int) - 1) = ((n + t.length : Nat) : Int) := by unfold wrap64; omega
              rw [if_pos (by omega), if_pos trivial, ew2, if_pos (by omega), if_pos (by omega), byte_at s n t rest c r e1 hc1, if_pos hc2, said _ C hcs e2']
            · clear hk1
              rw [if_neg (by omega), if_pos trivial, if_pos (by omega), lex_Break_at s (n + t.length) K (by omega), Option.bind_some, ← List.drop_drop, e1, List.drop_left, hbk, if_pos rfl, said _ C hcs e2']
          rcases endR_kinds d rest with h | ⟨k1, k2, k3⟩ | ⟨k1, c, r, k2, k3, k4⟩ | ⟨k1, k2, k3⟩
          · exact absurd h e3
          · rw [if_pos (by omega), if_pos trivial]
            subst k2
            simp only [List.length_nil] at hlen
            rw [if_pos (by omega), if_pos (by omega), if_pos (by omega), Int.toNat_natCast]
            rw [show s.size = n + t.length by omega]
            exact said _ C hcs e2'
          · rw [if_neg (by omega), if_neg (by omega)]
            simp only [tartanlaw02_LexEnds.j1]
            rw [if_neg (by decide)]
            refine final 1 (by omega) (by omega) (by rw [k2]; simp) (by omega) (fun _ => ⟨rfl, c, r, k2, k3⟩) (Or.inl (by omega))
          · rw [if_neg (by omega), if_pos (by omega)]
            rcases breakR_shape rest k3 with ⟨b1, r, b2⟩ | ⟨b1, r, b2⟩
            · have fin1 : tartanlaw02_LexEnds.j1 (K + 3) s n d true C ((n : Int) + (N : Int)) (Kd : Int) 1 false = some true := by
                simp only [tartanlaw02_LexEnds.j1]
                rw [if_neg (by decide)]
                exact final 1 (by omega) (by omega) (by rw [b2]; simp) (by omega) (fun h => by omega) (Or.inr ⟨by omega, b1⟩)
              by_cases hn2 : (n : Int) + (N : Int) ≥ 2
              · have ew : wrap64 ((n : Int) + (N : Int) - 2) = ((n + N - 2 : Nat) : Int) := by unfold wrap64; omega
                rw [if_pos hn2, ew, if_pos (by omega), if_pos (by omega)]
                by_cases h13 : bt s ((n + N - 2 : Nat) : Int) = 13
                · rw [if_pos h13]
                  have : ¬ ((n + N - 2 : Nat) : Int) ≥ (n : Int) := by
                    intro hge
                    have ht : 0 < t.length := by omega
                    apply e6
                    rw [List.getLast?_eq_getElem?]
                    have hlt : n + N - 2 < s.size := by omega
                    have hb := bt_nat s (n + N - 2) hlt
                    rw [h13] at hb
                    have hc := b13.1 hb.symm
                    have e := drop_toBs s (n + N - 2) hlt
                    have e8 : n + N - 2 = n + (t.length - 1) := by omega
                    rw [hc, e8, ← List.drop_drop, e1, List.drop_append_of_le_length (by omega)] at e
                    rw [List.drop_eq_getElem_cons (by omega)] at e
                    rw [List.getElem?_eq_getElem (by omega)]
                    exact congrArg some (List.cons.inj e).1
                  rw [decide_eq_false this]; exact fin1
                · rw [if_neg h13]; exact fin1
              · rw [if_neg hn2]; exact fin1
            · have hr2 : 2 ≤ rest.length := by rw [b2]; simp
              have ew : wrap64 ((n : Int) + (N : Int) - 2) = ((n + t.length : Nat) : Int) := by unfold wrap64; omega
              rw [if_pos (by omega), ew, if_pos (by omega), if_pos (by omega), byte_at s n t rest 13 (10 :: r) e1 b2, if_pos (by decide), decide_eq_true (by omega)]
              simp only [tartanlaw02_LexEnds.j1]
              rw [if_pos trivial]
              exact final 2 (by omega) (by omega) hr2 (by omega) (fun h => by omega) (Or.inr ⟨by omega, b1⟩)
        · rw [if_neg (by omega)]
          obtain ⟨f1, f2, f3⟩ := fieldR_bad d _ he
          rw [List.length_drop, size_toBs] at f3
          rw [f1, f2, if_pos (toList_ofBs []), if_pos (by decide)]
          by_cases g1 : ((fieldR d ((toBs s).drop n)).2.2.2 : Int) = 11
          · rw [if_pos g1]
          · rw [if_neg g1]
            by_cases g2 : ((fieldR d ((toBs s).drop n)).2.2.2 : Int) = 2
            · rw [if_pos g2]
            · rw [if_neg g2, if_pos (by omega), decide_eq_true (by omega)]
      · rw [if_neg hg]
        dsimp only
        rw [if_neg (by decide), if_pos (toList_ofBs []), if_pos (by decide), if_neg (by decide), if_pos (by decide)]

end Go.Proofs.Ytggodagdfldndaa.Pure
