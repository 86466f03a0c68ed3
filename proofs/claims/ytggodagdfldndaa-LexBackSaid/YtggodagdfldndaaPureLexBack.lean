/- What is written is read back, field by field, whatever stands behind it: for every input the law answers true. Conditions: none. -/
import Derived.Test.YtggodagdfldndaaM4
import Derived.Test.YtggodagdfldndaaPM
namespace Go.Proofs.Ytggodagdfldndaa.Pure
open Go.RowKit Go.Proofs.Ytggodagdfldndaa.Q.L.M Go.Proofs.Ytggodagdfldndaa.Q.L Go.Proofs.Ytggodagdfldndaa.Q Go.Proofs.YtggodagdfldndaaW.PrintWords Go.Proofs.YtggodagdfldndaaW.PrintLast

/-- What is still to be read, from a cell on. -/
def restR (d : Int) (c : UInt8) (crlf : Bool) (b : Bs) (l : List ByteArray) : Bs := rowR d c (cells l) ++ (brk crlf ++ b)
theorem restR_cons (d : Int) (c : UInt8) (crlf : Bool) (b : Bs) (x y : ByteArray) (r : List ByteArray) : restR d c crlf b (x :: y :: r) = put (toBs x) d ++ c :: restR d c crlf b (y :: r) := by
  unfold restR cells
  rw [List.map_cons, List.map_cons, rowR_cons]
  simp
theorem restR_one (d : Int) (c : UInt8) (crlf : Bool) (b : Bs) (x : ByteArray) : restR d c crlf b [x] = put (toBs x) d ++ (brk crlf ++ b) := by
  unfold restR cells
  rw [List.map_cons, List.map_nil, rowR_one]
theorem brk_pos (crlf : Bool) : 1 ≤ (brk crlf).length ∧ (brk crlf).length ≤ 2 := by cases crlf <;> decide
/-- Reading one field, in Go's words. -/
theorem field_at (s : ByteArray) (hs : s.size ≤ 1048576) (a : Nat) (ha : a ≤ s.size) (d : Int) (hg : goodI d = true) (l : Bs) (hl : (toBs s).drop a = l) (q : Bs × Nat × Nat × Nat) (hq : fieldR d l = q) :
    lex_Field.f s (a : Int) d = some (ofBs q.1, ((a + q.2.1 : Nat) : Int), (q.2.2.1 : Int), (q.2.2.2 : Int)) := by
  rw [lex_Field_f s a d hs]
  unfold outF field
  rw [if_neg (by rw [size_toBs]; omega), if_pos hg, Int.toNat_natCast, hl, hq]
  rfl
theorem read (c : UInt8) (hg : goodI (c.toNat : Int) = true) (crlf : Bool) (l : List ByteArray) (hlen : l.length ≤ 20) (s b : ByteArray) (hsz : s.size + b.size ≤ 1000000) :
    ∀ (m k i a : Nat), i + m = l.length → m < k → (toBs (s ++ b)).drop a = restR (c.toNat : Int) c crlf (toBs b) (l.drop i) → 1 ≤ m → a ≤ (s ++ b).size → 
      tartanlaw02_LexBack.l1 (k + 1) l (c.toNat : Int) b true s (a : Int) (i : Int) = some true := by
  intro m
  induction m with
  | zero => intro k i a _ _ _ h _; omega
  | succ m ih =>
    intro k i a hi hk hr _ ha
    obtain ⟨k, rfl⟩ : ∃ q, k = q + 1 := ⟨k - 1, by omega⟩
    have hlt : i < l.length := by omega
    have hsz2 : (s ++ b).size = s.size + b.size := ByteArray.size_append
    have hlast : wrap64 ((l.length : Int) - 1) = ((l.length - 1 : Nat) : Int) := by unfold wrap64; omega
    have hnext : wrap64 ((i : Int) + 1) = ((i + 1 : Nat) : Int) := wrap_nat i 1 (by omega)
    rw [tartanlaw02_LexBack.l1, if_pos (by omega), if_pos (by omega), hlast, hnext]
    have hlen2 := congrArg List.length hr
    rw [List.length_drop, size_toBs] at hlen2
    cases hm : m with
    | zero =>
      subst hm
      have e : l.drop i = [l[i]] := by rw [List.drop_eq_getElem_cons hlt, List.drop_eq_nil_of_le (by omega)]
      rw [e, restR_one] at hr
      have he := endR_brk (c.toNat : Int) hg crlf (toBs b)
      have hf := fieldR_put (c.toNat : Int) (toBs l[i]) (brk crlf ++ toBs b) (by rw [he]; exact (by decide : (2 : Nat) ≠ 0)) (noQ_brk crlf (toBs b))
      rw [he] at hf
      have hp := brk_pos crlf
      rw [field_at (s ++ b) (by omega) a ha _ hg _ hr _ hf, Option.bind_some]
      dsimp only
      have hx := congrArg List.length hr
      rw [List.length_drop, size_toBs, List.length_append, List.length_append, size_toBs] at hx
      generalize (put (toBs l[i]) (c.toNat : Int)).length = n at hx ⊢
      generalize (brk crlf).length = e at hp hx ⊢
      rw [if_pos (by decide), if_pos (by omega), rdOf_nat l i hlt, if_pos (by rw [toList_ofBs, toList_toBs]), if_neg (by omega)]
      rw [if_neg (by rw [show ((i : Int) == ((l.length - 1 : Nat) : Int)) = true from beq_iff_eq.2 (by omega)]; decide), if_neg (by omega)]
      rw [tartanlaw02_LexBack.l1, if_neg (by omega), if_pos rfl]
      have : a + (n + e) = s.size := by omega
      rw [this]; simp
    | succ m' =>
      subst hm
      have hlt2 : i + 1 < l.length := by omega
      have e : l.drop i = l[i] :: l[i + 1] :: l.drop (i + 2) := by rw [List.drop_eq_getElem_cons hlt, List.drop_eq_getElem_cons hlt2]
      have e2 : l.drop (i + 1) = l[i + 1] :: l.drop (i + 2) := List.drop_eq_getElem_cons hlt2
      rw [e, restR_cons, ← e2] at hr
      have he := endR_delim (c.toNat : Int) c rfl (restR (c.toNat : Int) c crlf (toBs b) (l.drop (i + 1)))
      have hf := fieldR_put (c.toNat : Int) (toBs l[i]) (c :: restR (c.toNat : Int) c crlf (toBs b) (l.drop (i + 1))) (by rw [he]; decide) (noQ_delim _ c rfl hg _)
      rw [he] at hf
      rw [field_at (s ++ b) (by omega) a ha _ hg _ hr _ hf, Option.bind_some]
      dsimp only
      have hx := congrArg List.length hr
      rw [List.length_drop, size_toBs, List.length_append, List.length_cons] at hx
      have hr2 : (toBs (s ++ b)).drop (a + ((put (toBs l[i]) (c.toNat : Int)).length + 1)) = restR (c.toNat : Int) c crlf (toBs b) (l.drop (i + 1)) := by
        rw [← List.drop_drop, hr, ← List.drop_drop, List.drop_left]; rfl
      generalize (put (toBs l[i]) (c.toNat : Int)).length = n at hx hr2 ⊢
      rw [if_pos (by decide), if_pos (by omega), rdOf_nat l i hlt, if_pos (by rw [toList_ofBs, toList_toBs]), if_neg (by omega)]
      rw [if_neg (by rw [show ((i : Int) == ((l.length - 1 : Nat) : Int)) = false from beq_eq_false_iff_ne.2 (by omega)]; decide), if_pos (by omega), if_pos (by decide)]
      exact ih k (i + 1) _ (by omega) (by omega) hr2 (by omega) (by omega)
theorem loop2 (c : UInt8) (hg : goodI (c.toNat : Int) = true) (crlf : Bool) (l : List ByteArray) (hlen : l.length ≤ 20) (h0 : 0 < l.length) (b : ByteArray) (hb : b.size ≤ 500) (K : Nat) (hK : 5000 < K) :
    ∀ (m i : Nat), i + m = l.length → Small (l.take i) 500 → tartanlaw02_LexBack.l0 (K + 2 + m) l (c.toNat : Int) crlf b true (i : Int) = some true := by
  intro m
  induction m with
  | zero =>
    intro i hi hs
    obtain rfl : i = l.length := by omega
    rw [List.take_length] at hs
    have hs' : Small l 1000 := fun x hx => Nat.le_trans (hs x hx) (by decide)
    have hlen2 := rowR_length (c.toNat : Int) c 500 (cells l) (by
      intro x hx
      obtain ⟨y, hy, rfl⟩ := List.mem_map.1 hx
      rw [size_toBs]; exact hs y hy)
    have hcl : (cells l).length * 1003 ≤ 20 * 1003 := Nat.mul_le_mul_right 1003 (by simp only [cells, List.length_map]; exact hlen)
    have hp := brk_pos crlf
    have hsz : (ofBs (writeB c l crlf)).size ≤ 100000 := by
      rw [size_ofBs]; unfold writeB; rw [List.length_append]; omega
    have hw := lex_Write_f c l crlf (by omega) hs' (K + 1) (by omega)
    have hrest : (toBs (ofBs (writeB c l crlf) ++ b)).drop 0 = restR (c.toNat : Int) c crlf (toBs b) (l.drop 0) := by
      rw [List.drop_zero, List.drop_zero, toBs_append, toBs_ofBs]
      unfold writeB restR
      rw [List.append_assoc]
    simp only [tartanlaw02_LexBack.l0]
    rw [if_neg (by omega), hw, Option.bind_some]
    exact read c hg crlf l hlen _ b (by omega) l.length K 0 0 (by omega) (by omega) hrest h0 (Nat.zero_le _)
  | succ m ih =>
    intro i hi hs
    have hlt : i < l.length := by omega
    rw [show K + 2 + (m + 1) = (K + 2 + m) + 1 from rfl]
    simp only [tartanlaw02_LexBack.l0]
    rw [if_pos (by omega), if_pos (by omega), rdOf_nat l i hlt]
    by_cases h2 : (l[i].size : Int) > 500
    · rw [if_pos h2]
    · rw [if_neg h2, show wrap64 ((i : Int) + 1) = ((i + 1 : Nat) : Int) from wrap_nat i 1 (by omega)]
      refine ih (i + 1) (by omega) ?_
      intro x hx
      rw [List.take_add_one, List.getElem?_eq_getElem hlt] at hx
      simp only [Option.toList_some, List.mem_append, List.mem_singleton] at hx
      rcases hx with hx | rfl
      · exact hs x hx
      · omega
/-- The one pure statement of the law. -/
theorem LexBack (l : List ByteArray) (d : Int) (crlf : Bool) (b : ByteArray) (hd : (Lit.int .u8 d).wf = true) (_ : b.size ≤ 140737488351232) : ∃ k, tartanlaw02_LexBack.f k l d crlf b = some true := by
  obtain ⟨c, rfl⟩ := delim_byte d hd
  obtain ⟨K, hK⟩ : ∃ K : Nat, 5000 < K := ⟨5001, by omega⟩
  refine ⟨K + 2 + l.length + 1, ?_⟩
  unfold tartanlaw02_LexBack.f
  have hj : ∀ x, tartanlaw02_LexBack.j0 (K + 2 + l.length + 1) l (c.toNat : Int) crlf b x true = some x := by
    intro x
    simp only [tartanlaw02_LexBack.j0]
    rw [if_pos trivial]
  rw [works02 _ (by omega), Option.bind_some, if_pos rfl, hj]
  by_cases h1 : (l.length : Int) > 20
  · rw [if_pos h1]
  · rw [if_neg h1]
    by_cases h2 : (l.length : Int) = 0
    · rw [if_pos h2]
    · rw [if_neg h2]
      by_cases h3 : (b.size : Int) > 500
      · rw [if_pos h3]
      · rw [if_neg h3, quote_Good_f, Option.bind_some]
        by_cases hg : goodI (c.toNat : Int) = true
        · rw [hg]
          simp only [tartanlaw02_LexBack.j0]
          rw [if_neg (by decide)]
          exact loop2 c hg crlf l (by omega) (by omega) b (by omega) K hK l.length 0 (by omega) (fun x hx => by cases hx)
        · rw [Bool.eq_false_iff.2 hg]
          exact hj true

end Go.Proofs.Ytggodagdfldndaa.Pure
