/- Plain laws of chapter 2: what a field is made of; what is written is read back. No Go in it. -/
import Derived.Test.YtggodagdfldndaaS2
import Derived.Lib.Join
namespace Go.Proofs.Ytggodagdfldndaa

/-- A field that was read: its text (plain or in quotes), then what ends it. -/
def FieldIs (d : Int) (l : Bs) (q : Bs × Nat × Nat × Nat) : Prop :=
  ∃ t rest, l = t ++ rest ∧ (t = q.1 ∨ t = quoted q.1) ∧ (endR rest d).1 ≠ 0 ∧ q.2.2.1 = (endR rest d).1 ∧ q.2.1 = t.length + (endR rest d).2 ∧ t.getLast? ≠ some 13
theorem plainF_ok (d : Int) : ∀ l : Bs, (plainF d l).2.2.2 = 0 →
    ∃ rest, l = (plainF d l).1 ++ rest ∧ (endR rest d).1 ≠ 0 ∧ (plainF d l).2.2.1 = (endR rest d).1 ∧ (plainF d l).2.1 = (plainF d l).1.length + (endR rest d).2 ∧ (13 : UInt8) ∉ (plainF d l).1
  | [], _ => ⟨[], rfl, by simp [endR], rfl, rfl, by simp [plainF]⟩
  | c :: r, h => by
    unfold plainF at h ⊢
    by_cases h1 : (endR (c :: r) d).1 = 0
    · rw [if_pos h1] at h ⊢
      by_cases h2 : c = 34
      · rw [if_pos h2] at h; cases h
      · rw [if_neg h2] at h ⊢
        by_cases h3 : c = 13
        · rw [if_pos h3] at h; cases h
        · rw [if_neg h3] at h ⊢
          by_cases h4 : (plainF d r).2.2.2 = 0
          · rw [if_pos h4]
            obtain ⟨rest, e1, e2, e3, e4, e5⟩ := plainF_ok d r h4
            refine ⟨rest, ?_, e2, e3, ?_, ?_⟩
            · show c :: r = c :: ((plainF d r).1 ++ rest)
              rw [← e1]
            · show (plainF d r).2.1 + 1 = (plainF d r).1.length + 1 + _
              omega
            · show (13 : UInt8) ∉ c :: (plainF d r).1
              simp only [List.mem_cons, not_or]
              exact ⟨fun e => h3 e.symm, e5⟩
          · rw [if_neg h4] at h; exact absurd h h4
    · rw [if_neg h1]
      exact ⟨c :: r, rfl, h1, rfl, by simp, by simp⟩
theorem quoted_last (l : Bs) : (quoted l).getLast? = some 34 := by
  unfold quoted
  rw [List.getLast?_cons, List.getLast?_append]; simp
theorem fieldR_ok (d : Int) (l : Bs) (h : (fieldR d l).2.2.2 = 0) : FieldIs d l (fieldR d l) := by
  unfold fieldR at h ⊢
  by_cases hq : l.head? = some 34
  · rw [if_pos hq] at h ⊢
    unfold quotedF at h ⊢
    by_cases h1 : (getq l).2.2 = 0
    · rw [if_pos h1] at h ⊢
      by_cases h2 : (endR (l.drop (getq l).2.1) d).1 = 0
      · rw [if_pos h2] at h; cases h
      · rw [if_neg h2]
        obtain ⟨_, a2, a3, _⟩ := getq_only l (getq l).1 (getq l).2.1 (by rw [← h1])
        refine ⟨quoted (getq l).1, l.drop (getq l).2.1, ?_, Or.inr rfl, h2, rfl, ?_, ?_⟩
        · rw [← a3, List.take_append_drop]
        · show _ = (quoted (getq l).1).length + _
          rw [← a3, List.length_take, Nat.min_eq_left a2]
        · rw [quoted_last]; decide
    · rw [if_neg h1] at h; exact absurd h h1
  · rw [if_neg hq] at h ⊢
    obtain ⟨rest, e1, e2, e3, e4, e5⟩ := plainF_ok d l h
    exact ⟨_, rest, e1, Or.inl rfl, e2, e3, e4, fun e => e5 (List.mem_of_getLast? e)⟩
theorem plainF_bad (d : Int) : ∀ l : Bs, (plainF d l).2.2.2 ≠ 0 → (plainF d l).2.1 < l.length
  | [], h => by simp [plainF] at h
  | c :: r, h => by
    unfold plainF at h ⊢
    by_cases h1 : (endR (c :: r) d).1 = 0
    · rw [if_pos h1] at h ⊢
      by_cases h2 : c = 34
      · rw [if_pos h2]; simp
      · rw [if_neg h2] at h ⊢
        by_cases h3 : c = 13
        · rw [if_pos h3]; simp
        · rw [if_neg h3] at h ⊢
          by_cases h4 : (plainF d r).2.2.2 = 0
          · rw [if_pos h4] at h; exact absurd rfl h
          · rw [if_neg h4]
            have := plainF_bad d r h4
            show (plainF d r).2.1 + 1 < r.length + 1
            omega
    · rw [if_neg h1] at h; exact absurd rfl h
/-- A fault: no field, no kind, and the place lies in the text. -/
theorem fieldR_bad (d : Int) (l : Bs) (h : (fieldR d l).2.2.2 ≠ 0) : (fieldR d l).1 = [] ∧ (fieldR d l).2.2.1 = 0 ∧ (fieldR d l).2.1 < l.length := by
  unfold fieldR at h ⊢
  by_cases hq : l.head? = some 34
  · rw [if_pos hq] at h ⊢
    have hl : 0 < l.length := by
      cases l with
      | nil => cases hq
      | cons c r => simp
    unfold quotedF at h ⊢
    by_cases h1 : (getq l).2.2 = 0
    · rw [if_pos h1] at h ⊢
      by_cases h2 : (endR (l.drop (getq l).2.1) d).1 = 0
      · rw [if_pos h2]
        obtain ⟨_, a2, _, _⟩ := getq_only l (getq l).1 (getq l).2.1 (by rw [← h1])
        refine ⟨rfl, rfl, ?_⟩
        show (getq l).2.1 < l.length
        by_cases e : (getq l).2.1 = l.length
        · rw [e, List.drop_length] at h2; simp [endR] at h2
        · omega
      · rw [if_neg h2] at h; exact absurd rfl h
    · rw [if_neg h1]; exact ⟨rfl, rfl, hl⟩
  · rw [if_neg hq] at h ⊢
    obtain ⟨a1, a2⟩ := plainF_kind d l h
    exact ⟨a1, a2, plainF_bad d l h⟩
/-! ### what is written is read back -/
theorem plain_cons (c : UInt8) (r : Bs) (d : Int) : plain (c :: r) d = true → (c.toNat : Int) ≠ d ∧ c ≠ 34 ∧ c ≠ 13 ∧ c ≠ 10 ∧ plain r d = true := by
  intro h
  simp only [plain, List.all_cons, Bool.and_eq_true, goodI, bne_iff_ne, ne_eq] at h
  obtain ⟨⟨h1, h2, h3, h4⟩, h5⟩ := h
  refine ⟨h1, ?_, ?_, ?_, h5⟩
  · rintro rfl; exact h2 rfl
  · rintro rfl; exact h3 rfl
  · rintro rfl; exact h4 rfl
theorem plainF_end (d : Int) (rest : Bs) (he : (endR rest d).1 ≠ 0) : plainF d rest = ([], (endR rest d).2, (endR rest d).1, 0) := by
  cases rest with
  | nil => rfl
  | cons c r => rw [plainF, if_neg he]
theorem plainF_plain (d : Int) (rest : Bs) (he : (endR rest d).1 ≠ 0) : ∀ c : Bs, plain c d = true → plainF d (c ++ rest) = (c, c.length + (endR rest d).2, (endR rest d).1, 0)
  | [], _ => by rw [List.nil_append, plainF_end d rest he]; simp
  | c :: r, h => by
    obtain ⟨h1, h2, h3, h4, h5⟩ := plain_cons c r d h
    have hb : breakR (c :: (r ++ rest)) = 0 := by
      cases hh : r ++ rest with
      | nil => simp [breakR, h4]
      | cons a b => simp [breakR, h4, h3]
    have e0 : (endR (c :: (r ++ rest)) d).1 = 0 := by
      simp only [endR]
      rw [if_neg h1, if_pos hb]
    rw [List.cons_append, plainF, if_pos e0, if_neg h2, if_neg h3, plainF_plain d rest he r h5, if_pos rfl]
    simp; omega
theorem fieldR_put (d : Int) (c rest : Bs) (he : (endR rest d).1 ≠ 0) (hq : NoQ rest) : fieldR d (put c d ++ rest) = (c, (put c d).length + (endR rest d).2, (endR rest d).1, 0) := by
  unfold put
  by_cases hp : plain c d = true
  · rw [if_pos hp]
    have hh : (c ++ rest).head? ≠ some 34 := by
      cases c with
      | nil =>
        cases rest with
        | nil => simp
        | cons a b => have := hq a b rfl; simpa using this
      | cons a b => have := (plain_cons a b d hp).2.1; simpa using this
    unfold fieldR
    rw [if_neg hh, plainF_plain d rest he c hp]
  · rw [if_neg hp]
    have hh : (quoted c ++ rest).head? = some 34 := by simp [quoted]
    unfold fieldR quotedF
    rw [if_pos hh, getq_quoted c rest hq]
    dsimp only
    rw [if_pos rfl, List.drop_left, if_neg he]
/-- The break that a record ends with. -/
def brk (crlf : Bool) : Bs := if crlf = true then [13, 10] else [10]
/-- The cells of a record as they are written. -/
def rowR (d : Int) (c : UInt8) (l : List Bs) : Bs := Lib.join (l.map (fun x => put x d)) [c]
theorem rowR_one (d : Int) (c : UInt8) (x : Bs) : rowR d c [x] = put x d := Lib.join_one _ _
theorem rowR_cons (d : Int) (c : UInt8) (x y : Bs) (r : List Bs) : rowR d c (x :: y :: r) = put x d ++ c :: rowR d c (y :: r) := by
  unfold rowR
  rw [List.map_cons, Lib.join_cons, List.map_cons, Lib.join_cons]
  simp [Lib.joinTail]
theorem endR_delim (d : Int) (c : UInt8) (hd : (c.toNat : Int) = d) (r : Bs) : endR (c :: r) d = (1, 1) := by simp only [endR]; rw [if_pos hd]
theorem endR_brk (d : Int) (hg : goodI d = true) (crlf : Bool) (r : Bs) : endR (brk crlf ++ r) d = (2, (brk crlf).length) := by
  simp only [goodI, Bool.and_eq_true, bne_iff_ne, ne_eq] at hg
  obtain ⟨_, h2, h3⟩ := hg
  cases crlf with
  | true =>
    show endR (13 :: 10 :: r) d = (2, 2)
    simp only [endR]
    rw [if_neg (fun e => h2 e.symm)]
    simp [breakR]
  | false =>
    show endR (10 :: r) d = (2, 1)
    simp only [endR]
    have hb : breakR (10 :: r) = 1 := by cases r <;> simp [breakR]
    rw [if_neg (fun e => h3 e.symm), hb]
    simp
theorem noQ_brk (crlf : Bool) (r : Bs) : NoQ (brk crlf ++ r) := by
  intro c t e
  cases crlf with
  | true => rw [show brk true = [13, 10] from rfl] at e; rw [← (List.cons.inj e).1]; decide
  | false => rw [show brk false = [10] from rfl] at e; rw [← (List.cons.inj e).1]; decide
theorem noQ_delim (d : Int) (c : UInt8) (hd : (c.toNat : Int) = d) (hg : goodI d = true) (r : Bs) : NoQ (c :: r) := by
  intro a t e
  rw [← (List.cons.inj e).1]
  rintro rfl
  simp [goodI, ← hd] at hg
end Go.Proofs.Ytggodagdfldndaa
