/- Bytes as lists, arrows: plain functions. No Go in it. -/
import Derived.Lib.Strings
import Derived.Lib.IndexBytes
import Derived.Lib.IndexMore
import Derived.Lib.TrimByte
namespace Go.Proofs.YtggodagdfldndaaDoor
abbrev Bs := List UInt8
/-- A list of bytes, as a text. -/
def ofBs (l : Bs) : ByteArray := ⟨l.toArray⟩
/-- A text, as a list of bytes. -/
def toBs (s : ByteArray) : Bs := s.data.toList
theorem toBs_ofBs (l : Bs) : toBs (ofBs l) = l := by simp [toBs, ofBs]
theorem ofBs_toBs (s : ByteArray) : ofBs (toBs s) = s := by simp [toBs, ofBs]
theorem size_toBs (s : ByteArray) : (toBs s).length = s.size := rfl
theorem size_ofBs (l : Bs) : (ofBs l).size = l.length := by rw [← size_toBs, toBs_ofBs]
theorem toList_ofBs (l : Bs) : (ofBs l).toList = l := by rw [Lib.toList_data]; exact toBs_ofBs l
theorem toList_toBs (s : ByteArray) : s.toList = toBs s := Lib.toList_data s
theorem toBs_append (a b : ByteArray) : toBs (a ++ b) = toBs a ++ toBs b := by simp [toBs]
theorem ofBs_append (a b : Bs) : ofBs (a ++ b) = ofBs a ++ ofBs b := by
  rw [← ofBs_toBs (ofBs a ++ ofBs b), toBs_append, toBs_ofBs, toBs_ofBs]
theorem eq_ofBs {s : ByteArray} {l : Bs} (h : toBs s = l) : s = ofBs l := by rw [← h, ofBs_toBs]
theorem toBs_extract (s : ByteArray) (a b : Nat) : toBs (s.extract a b) = ((toBs s).take b).drop a := by rw [List.drop_take]; exact Lib.extract_data s a b
theorem drop_toBs (s : ByteArray) (k : Nat) (h : k < s.size) : (toBs s).drop k = s[k] :: (toBs s).drop (k + 1) := by
  have : k < (toBs s).length := h
  rw [List.drop_eq_getElem_cons this]
  rfl
/-- An arrow. -/
def arrowB (n : Nat) : Bs := List.replicate n 45 ++ [62]
theorem arrowB_length (n : Nat) : (arrowB n).length = n + 1 := by simp [arrowB]
theorem arrowB_succ (n : Nat) : arrowB (n + 1) = 45 :: arrowB n := rfl
/-- Is a text in a cell? -/
def has (sign : Bs) (x : ByteArray) : Bool := Lib.contains (toBs x) sign
theorem has_le {sign : Bs} {x : ByteArray} (h : has sign x = true) : sign.length ≤ x.size := by
  unfold has Lib.contains at h
  have := Lib.index_room (toBs x) sign (of_decide_eq_true h)
  have h2 := of_decide_eq_true h
  rw [size_toBs] at this
  omega
/-- How long the shortest arrow is that is in no cell, from a length on. -/
def shortest (l : List ByteArray) : Nat → Nat → Nat
  | 0, n => n
  | k + 1, n => if l.any (has (arrowB n)) = true then shortest l k (n + 1) else n
def Few (l : List ByteArray) : Prop := ∀ x ∈ l, x.size ≤ 10000
theorem any_le {l : List ByteArray} (hf : Few l) {n : Nat} (h : l.any (has (arrowB n)) = true) : n + 1 ≤ 10000 := by
  obtain ⟨x, hx, hh⟩ := List.any_eq_true.1 h
  have := has_le hh
  rw [arrowB_length] at this
  have := hf x hx
  omega
/-- The first that is in none. -/
theorem shortest_is (l : List ByteArray) : ∀ (k n m : Nat), n ≤ m → m < n + k → (∀ j, n ≤ j → j < m → l.any (has (arrowB j)) = true) → l.any (has (arrowB m)) = false → shortest l k n = m
  | 0, n, m, h1, h2, _, _ => by omega
  | k + 1, n, m, h1, h2, h3, h4 => by
    rw [shortest]
    by_cases e : n = m
    · subst e
      rw [h4, if_neg (by decide)]
    · rw [if_pos (h3 n (Nat.le_refl _) (by omega))]
      exact shortest_is l k (n + 1) m (by omega) (by omega) (fun j h5 h6 => h3 j (by omega) h6) h4
def arrowN (l : List ByteArray) : Nat := shortest l 20000 1
end Go.Proofs.YtggodagdfldndaaDoor
