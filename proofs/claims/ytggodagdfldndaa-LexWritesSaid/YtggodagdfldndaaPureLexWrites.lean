/- A record as it is written is what the document's own function writes, and ends with a break: for every input the law answers true. Conditions: none. -/
import Derived.Test.YtggodagdfldndaaM8
import Derived.Test.YtggodagdfldndaaPM
namespace Go.Proofs.Ytggodagdfldndaa.Pure
open Go.RowKit Go.Proofs.Ytggodagdfldndaa.Q.L.M Go.Proofs.Ytggodagdfldndaa.Q.L Go.Proofs.Ytggodagdfldndaa.Q Go.Proofs.YtggodagdfldndaaW.PrintWords Go.Proofs.YtggodagdfldndaaW.PrintLast

/-- The lengths of the cells as they are written, added up. -/
def putLens (d : Int) (l : List ByteArray) : Nat := (l.map (fun x => (put (toBs x) d).length)).sum
theorem putLens_take (d : Int) (l : List ByteArray) (i : Nat) (h : i < l.length) : putLens d (l.take (i + 1)) = putLens d (l.take i) + (put (toBs l[i]) d).length := by
  unfold putLens
  rw [List.take_add_one, List.getElem?_eq_getElem h, List.map_append, List.sum_append]
  rfl
theorem tailR_length (d : Int) (c : UInt8) : ∀ l : List ByteArray, (tailR d c l).length = l.length + putLens d l
  | [] => rfl
  | x :: r => by
    rw [tailR_cons]
    have := tailR_length d c r
    simp only [List.length_cons, List.length_append, this, putLens, List.map_cons, List.sum_cons]
    omega
theorem rowR_len (d : Int) (c : UInt8) (l : List ByteArray) : (rowR d c (cells l)).length = putLens d l + (l.length - 1) := by
  cases l with
  | nil => rfl
  | cons x r =>
    rw [rowR_tail, List.length_append, tailR_length]
    simp only [putLens, List.map_cons, List.sum_cons, List.length_cons]
    omega
theorem brk_length (crlf : Bool) : (brk crlf).length = if crlf = true then 2 else 1 := by cases crlf <;> rfl
theorem breakR_brk (crlf : Bool) : breakR (brk crlf) = (brk crlf).length := by cases crlf <;> decide
theorem break_write (c : UInt8) (l : List ByteArray) (crlf : Bool) (n : Nat) (hn : n = (rowR (c.toNat : Int) c (cells l)).length) : breakAt (writeB c l crlf) (n : Int) = (brk crlf).length := by
  unfold breakAt writeB
  have hb : 0 < (brk crlf).length := by cases crlf <;> decide
  rw [if_neg (by rw [List.length_append]; omega), Int.toNat_natCast, hn, List.drop_left, breakR_brk]
theorem putLens_le (d : Int) (l : List ByteArray) (h : Small l 500) : putLens d l ≤ l.length * 1002 := by
  induction l with
  | nil => exact Nat.zero_le _
  | cons x r ih =>
    have h1 := put_length (toBs x) d
    have h2 := h x (by simp)
    rw [size_toBs] at h1
    have h3 := ih (fun y hy => h y (by simp [hy]))
    simp only [putLens, List.map_cons, List.sum_cons, List.length_cons] at h3 ⊢
    omega
theorem total2 (p n r z : Nat) (h : p + n ≤ 1000000) (hr : r = p + n) (hz : z = r + 2) : (z : Int) = wrap64 (wrap64 ((p : Int) + (n : Int)) + 2) := by
  unfold wrap64; omega
theorem total1 (p n r z : Nat) (h : p + n ≤ 1000000) (hr : r = p + n) (hz : z = r + 1) : (z : Int) = wrap64 (wrap64 ((p : Int) + (n : Int)) + 1) := by
  unfold wrap64; omega
theorem start2 (r z : Nat) (h : r ≤ 1000000) (hz : z = r + 2) : wrap64 ((z : Int) - 2) = (r : Int) := by unfold wrap64; omega
theorem start1 (r z : Nat) (h : r ≤ 1000000) (hz : z = r + 1) : wrap64 ((z : Int) - 1) = (r : Int) := by unfold wrap64; omega
theorem less1 (n : Nat) (h : n ≤ 1000) : mx (wrap64 ((n : Int) - 1)) 0 = ((n - 1 : Nat) : Int) := by
  have : wrap64 ((n : Int) - 1) = (n : Int) - 1 := by unfold wrap64; omega
  rw [this]
  unfold mx
  split <;> omega
theorem final (c : UInt8) (l : List ByteArray) (crlf : Bool) (hl : l.length ≤ 41) (hs : Small l 500) (K : Nat) (hK : 5000 < K) :
    tartanlaw02_LexWrites.l0 (K + 2) l (c.toNat : Int) crlf true (putLens c.toNat l : Nat) (l.length : Int) = some true := by
  have hs' : Small l 1000 := fun x hx => Nat.le_trans (hs x hx) (by decide)
  have hlen := rowR_len (c.toNat : Int) c l
  have hp := putLens_le c.toNat l hs
  have hp2 := Nat.mul_le_mul_right 1002 hl
  have hsz : (ofBs (writeB c l crlf)).size = (rowR (c.toNat : Int) c (cells l)).length + (brk crlf).length := by rw [size_ofBs]; unfold writeB; rw [List.length_append]
  have hb := break_write c l crlf _ rfl
  have hb' : breakAt (toBs (ofBs (writeB c l crlf))) (((rowR (c.toNat : Int) c (cells l)).length : Nat) : Int) = (brk crlf).length := by rw [toBs_ofBs]; exact hb
  have hw := lex_Write_f c l crlf (by omega) hs' (K + 1) (by omega)
  have hw2 := ref02_Write_f c l crlf (by omega) hs' (K + 1) (by omega)
  have hm := less1 l.length (by omega)
  generalize (rowR (c.toNat : Int) c (cells l)).length = R at hlen hsz hb'
  generalize putLens (c.toNat : Int) l = P at hlen hp ⊢
  clear hb
  generalize ofBs (writeB c l crlf) = Z at hsz hb' hw hw2
  simp only [tartanlaw02_LexWrites.l0]
  rw [if_neg (by omega), hw, Option.bind_some, hm]
  cases crlf with
  | true =>
    rw [show (brk true).length = 2 from rfl] at hsz hb'
    rw [if_pos rfl, if_pos trivial, hw2, Option.bind_some, if_pos rfl, if_pos (total2 P (l.length - 1) R _ (by omega) hlen hsz), lex_Break_f, Option.bind_some, start2 R _ (by omega) hsz, hb']; rfl
  | false =>
    rw [show (brk false).length = 1 from rfl] at hsz hb'
    rw [if_neg (by decide), if_pos trivial, hw2, Option.bind_some, if_pos rfl, if_pos (total1 P (l.length - 1) R _ (by omega) hlen hsz), lex_Break_f, Option.bind_some, start1 R _ (by omega) hsz, hb']; rfl
theorem mono_add (l : List ByteArray) (d : Int) (crlf : Bool) (x : Bool) (n i : Int) (k : Nat) (r : Bool) : ∀ j, tartanlaw02_LexWrites.l0 k l d crlf x n i = some r → tartanlaw02_LexWrites.l0 (k + j) l d crlf x n i = some r
  | 0, h => h
  | j + 1, h => tartanlaw02_LexWrites.mono_l _ _ _ _ _ _ _ _ (mono_add l d crlf x n i k r j h)
theorem loop (c : UInt8) (l : List ByteArray) (crlf : Bool) (K : Nat) (hK : 5000 < K) : ∀ (m i : Nat), i + m = l.length → i ≤ 41 → Small (l.take i) 500 →
    tartanlaw02_LexWrites.l0 (K + 2 + m) l (c.toNat : Int) crlf true (putLens c.toNat (l.take i) : Nat) (i : Int) = some true := by
  intro m
  induction m with
  | zero =>
    intro i hi h41 hs
    obtain rfl : i = l.length := by omega
    rw [List.take_length] at hs ⊢
    exact final c l crlf h41 hs K hK
  | succ m ih =>
    intro i hi h41 hs
    have hlt : i < l.length := by omega
    rw [show K + 2 + (m + 1) = (K + 2 + m) + 1 from rfl]
    simp only [tartanlaw02_LexWrites.l0]
    rw [if_pos (by omega)]
    by_cases h1 : (i : Int) > 40
    · rw [if_pos h1]
    · rw [if_neg h1, if_pos (by omega), rdOf_nat l i hlt]
      by_cases h2 : (l[i].size : Int) > 500
      · rw [if_pos h2]
      · rw [if_neg h2, quote_Size_f _ _ (by omega) _ (by omega), Option.bind_some, show wrap64 ((i : Int) + 1) = ((i + 1 : Nat) : Int) from wrap_nat i 1 (by omega)]
        have hp := putLens_le c.toNat (l.take i) hs
        have hp2 : (l.take i).length * 1002 ≤ 41 * 1002 := Nat.mul_le_mul_right 1002 (by rw [List.length_take]; omega)
        have hp3 := put_length (toBs l[i]) c.toNat
        rw [size_toBs] at hp3
        rw [wrap_nat _ _ (by omega), ← putLens_take _ l i hlt]
        refine ih (i + 1) (by omega) (by omega) ?_
        intro x hx
        rw [List.take_add_one, List.getElem?_eq_getElem hlt] at hx
        simp only [Option.toList_some, List.mem_append, List.mem_singleton] at hx
        rcases hx with hx | rfl
        · exact hs x hx
        · omega
/-- The one pure statement of the law. -/
theorem LexWrites (l : List ByteArray) (d : Int) (crlf : Bool) (hd : (Lit.int .u8 d).wf = true) : ∃ k, tartanlaw02_LexWrites.f k l d crlf = some true := by
  obtain ⟨c, rfl⟩ := delim_byte d hd
  obtain ⟨K, hK⟩ : ∃ K : Nat, 5000 < K := ⟨5001, by omega⟩
  refine ⟨K + 2 + l.length, ?_⟩
  unfold tartanlaw02_LexWrites.f
  rw [works02 _ (by omega), Option.bind_some, if_pos rfl]
  exact loop c l crlf K hK l.length 0 (by omega) (by omega) (fun x hx => by cases hx)

end Go.Proofs.Ytggodagdfldndaa.Pure
