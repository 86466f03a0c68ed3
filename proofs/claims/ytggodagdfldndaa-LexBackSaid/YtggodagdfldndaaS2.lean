/- Plain functions of chapter 2 on lists of bytes: a break, what ends a field, a field of a text. No Go in it. -/
import Derived.Test.YtggodagdfldndaaT
namespace Go.Proofs.Ytggodagdfldndaa
/-- How long the break is that stands at the beginning. -/
def breakR : Bs → Nat
  | [] => 0
  | [c] => if c = 10 then 1 else 0
  | c :: d :: _ => if c = 10 then 1 else if c = 13 ∧ d = 10 then 2 else 0
/-- What ends a field at the beginning (0: nothing does), and how long it is. -/
def endR (l : Bs) (d : Int) : Nat × Nat :=
  match l with
  | [] => (3, 0)
  | c :: r => if (c.toNat : Int) = d then (1, 1) else if breakR (c :: r) = 0 then (0, 0) else (2, breakR (c :: r))
/-- A field that does not begin with a quote: what it is, how many bytes it takes with what ends it, what ends it, the error. -/
def plainF (d : Int) : Bs → Bs × Nat × Nat × Nat
  | [] => ([], 0, 3, 0)
  | c :: r => if (endR (c :: r) d).1 = 0 then
      (if c = 34 then ([], 0, 0, 3) else if c = 13 then ([], 0, 0, 6) else
        if (plainF d r).2.2.2 = 0 then (c :: (plainF d r).1, (plainF d r).2.1 + 1, (plainF d r).2.2.1, 0) else ([], (plainF d r).2.1 + 1, 0, (plainF d r).2.2.2))
      else ([], (endR (c :: r) d).2, (endR (c :: r) d).1, 0)
/-- A field in quotes. -/
def quotedF (d : Int) (l : Bs) : Bs × Nat × Nat × Nat :=
  if (getq l).2.2 = 0 then
    (if (endR (l.drop (getq l).2.1) d).1 = 0 then ([], (getq l).2.1, 0, 5) else ((getq l).1, (getq l).2.1 + (endR (l.drop (getq l).2.1) d).2, (endR (l.drop (getq l).2.1) d).1, 0))
  else ([], 0, 0, (getq l).2.2)
def fieldR (d : Int) (l : Bs) : Bs × Nat × Nat × Nat := if l.head? = some 34 then quotedF d l else plainF d l
/-- A field at a place of a text. -/
def field (s : Bs) (i : Int) (d : Int) : Bs × Int × Nat × Nat :=
  if i < 0 ∨ (s.length : Int) < i then ([], i, 0, 11)
  else if goodI d = true then ((fieldR d (s.drop i.toNat)).1, i + (fieldR d (s.drop i.toNat)).2.1, (fieldR d (s.drop i.toNat)).2.2.1, (fieldR d (s.drop i.toNat)).2.2.2)
  else ([], i, 0, 2)

/-! ### a field, byte by byte -/
def addPre (p : Bs) (q : Bs × Nat × Nat × Nat) : Bs × Nat × Nat × Nat :=
  if q.2.2.2 = 0 then (p ++ q.1, p.length + q.2.1, q.2.2.1, 0) else ([], p.length + q.2.1, 0, q.2.2.2)
theorem plainF_kind (d : Int) : ∀ l : Bs, (plainF d l).2.2.2 ≠ 0 → (plainF d l).1 = [] ∧ (plainF d l).2.2.1 = 0
  | [], h => by simp [plainF] at h
  | c :: r, h => by
    unfold plainF at h ⊢
    split
    · rename_i h1
      rw [if_pos h1] at h
      split
      · exact ⟨rfl, rfl⟩
      · rename_i h2
        rw [if_neg h2] at h
        split
        · exact ⟨rfl, rfl⟩
        · rename_i h3
          rw [if_neg h3] at h
          split
          · rename_i h4; rw [if_pos h4] at h; exact absurd rfl h
          · exact ⟨rfl, rfl⟩
    · rename_i h1; rw [if_neg h1] at h; exact absurd rfl h
/-- At i bytes looked at. -/
def FRel (d : Int) (l : Bs) (a i : Nat) : Prop := plainF d (l.drop a) = addPre ((l.take i).drop a) (plainF d (l.drop i))
theorem addPre_nil (d : Int) (l : Bs) : addPre [] (plainF d l) = plainF d l := by
  unfold addPre
  split
  · rename_i h; rw [← h]; simp
  · rename_i h
    obtain ⟨h1, h2⟩ := plainF_kind d l h
    simp only [List.length_nil, Nat.zero_add]
    rw [← h1, ← h2]
theorem fRel_start (d : Int) (l : Bs) (a : Nat) : FRel d l a a := by
  unfold FRel
  have e : (l.take a).drop a = [] := List.drop_eq_nil_of_le (by rw [List.length_take]; omega)
  rw [e, addPre_nil]
theorem fRel_next (d : Int) (s : ByteArray) (a i : Nat) (ha : a ≤ i) (hi : i < s.size) (he : (endR ((toBs s).drop i) d).1 = 0) (h1 : s[i] ≠ 34) (h2 : s[i] ≠ 13) (h : FRel d (toBs s) a i) : FRel d (toBs s) a (i + 1) := by
  unfold FRel at *
  rw [drop_toBs s i hi] at he
  rw [h, drop_toBs s i hi, take_drop_snoc s i a hi ha]
  conv => lhs; rw [plainF, if_pos he, if_neg h1, if_neg h2]
  unfold addPre
  by_cases h4 : (plainF d ((toBs s).drop (i + 1))).2.2.2 = 0
  · simp [h4]; omega
  · simp [h4]; omega
theorem pre_length (s : ByteArray) (a i : Nat) (ha : a ≤ i) (hi : i ≤ s.size) : (((toBs s).take i).drop a).length = i - a := by
  rw [List.length_drop, List.length_take, size_toBs]; omega
theorem fRel_end (d : Int) (s : ByteArray) (a i : Nat) (ha : a ≤ i) (hi : i ≤ s.size) (he : (endR ((toBs s).drop i) d).1 ≠ 0) (h : FRel d (toBs s) a i) :
    plainF d ((toBs s).drop a) = (toBs (s.extract a i), i - a + (endR ((toBs s).drop i) d).2, (endR ((toBs s).drop i) d).1, 0) := by
  have e : plainF d ((toBs s).drop i) = ([], (endR ((toBs s).drop i) d).2, (endR ((toBs s).drop i) d).1, 0) := by
    cases hl : (toBs s).drop i with
    | nil => rfl
    | cons c r => rw [hl] at he; rw [plainF, if_neg he]
  unfold FRel at h
  rw [h, e]
  unfold addPre
  rw [if_pos rfl, toBs_extract, pre_length s a i ha hi]
  simp
theorem fRel_bad (d : Int) (s : ByteArray) (a i : Nat) (ha : a ≤ i) (hi : i < s.size) (he : (endR ((toBs s).drop i) d).1 = 0) (h : FRel d (toBs s) a i) :
    (s[i] = 34 → plainF d ((toBs s).drop a) = ([], i - a, 0, 3)) ∧ (s[i] ≠ 34 → s[i] = 13 → plainF d ((toBs s).drop a) = ([], i - a, 0, 6)) := by
  unfold FRel at h
  have hp := pre_length s a i ha (by omega)
  rw [drop_toBs s i hi] at he h
  constructor
  · intro h1
    rw [h, plainF, if_pos he, if_pos h1]
    unfold addPre
    simp [hp]
  · intro h1 h2
    rw [h, plainF, if_pos he, if_neg h1, if_pos h2]
    unfold addPre
    simp [hp]
theorem endR_nil (s : ByteArray) (d : Int) (i : Nat) (h : s.size ≤ i) : endR ((toBs s).drop i) d = (3, 0) := by
  rw [List.drop_eq_nil_of_le (by rw [size_toBs]; exact h)]; rfl
theorem breakR_le (l : Bs) : breakR l ≤ l.length ∧ breakR l ≤ 2 := by
  cases l with
  | nil => exact ⟨Nat.le_refl _, Nat.zero_le _⟩
  | cons c r =>
    cases r with
    | nil => simp only [breakR, List.length_cons, List.length_nil]; split <;> omega
    | cons e r => simp only [breakR, List.length_cons]; split; · omega
                  · split <;> omega
theorem endR_le (l : Bs) (d : Int) : (endR l d).2 ≤ l.length ∧ (endR l d).2 ≤ 2 ∧ (endR l d).1 ≤ 3 := by
  cases l with
  | nil => simp [endR]
  | cons c r =>
    have hb := breakR_le (c :: r)
    simp only [endR]
    split
    · simp
    · split
      · simp
      · exact ⟨hb.1, hb.2, by simp⟩
end Go.Proofs.Ytggodagdfldndaa
