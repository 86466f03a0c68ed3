/- Plain functions on lists of bytes: what quoted cells are, and what is got out of them. No Go in it. -/
import Derived.Lib.Strings
import Derived.Lib.IndexBytes
namespace Go.Proofs.Ytggodagdfldndaa
abbrev Bs := List UInt8
/-- Bytes as a string. -/
def ofBs (l : Bs) : ByteArray := ⟨l.toArray⟩
/-- A string's bytes. -/
def toBs (s : ByteArray) : Bs := s.data.toList
theorem toBs_ofBs (l : Bs) : toBs (ofBs l) = l := by simp [toBs, ofBs]
theorem ofBs_toBs (s : ByteArray) : ofBs (toBs s) = s := by simp [toBs, ofBs]
theorem size_toBs (s : ByteArray) : (toBs s).length = s.size := rfl
theorem ofBs_inj {a b : Bs} (h : ofBs a = ofBs b) : a = b := by have := congrArg toBs h; rwa [toBs_ofBs, toBs_ofBs] at this
theorem size_ofBs (l : Bs) : (ofBs l).size = l.length := by rw [← size_toBs, toBs_ofBs]

/-- With each quote twice. -/
def twice : Bs → Bs
  | [] => []
  | c :: r => if c = 34 then 34 :: 34 :: twice r else c :: twice r
def quoted (s : Bs) : Bs := 34 :: (twice s ++ [34])
/-- What stands up to the last quote that belongs to it, and how many bytes were looked at. -/
def scan : Bs → Option (Bs × Nat)
  | [] => none
  | [c] => if c = 34 then some ([], 1) else none
  | c :: d :: r => if c = 34 then (if d = 34 then (scan r).map (fun p => (34 :: p.1, p.2 + 2)) else some ([], 1)) else (scan (d :: r)).map (fun p => (c :: p.1, p.2 + 1))
/-- What stands in quotes, how many bytes it was written with, and the error. -/
def getq : Bs → Bs × Nat × Nat
  | [] => ([], 0, 3)
  | c :: r => if c = 34 then (match scan r with | none => ([], 0, 4) | some p => (p.1, p.2 + 1, 0)) else ([], 0, 3)

theorem twice_append (a b : Bs) : twice (a ++ b) = twice a ++ twice b := by
  induction a with
  | nil => rfl
  | cons c r ih => simp only [List.cons_append, twice]; split <;> simp [ih]
theorem twice_length_le (s : Bs) : (twice s).length ≤ 2 * s.length := by
  induction s with
  | nil => simp [twice]
  | cons c r ih => simp only [twice]; split <;> simp <;> omega
theorem le_twice_length (s : Bs) : s.length ≤ (twice s).length := by
  induction s with
  | nil => simp [twice]
  | cons c r ih => simp only [twice]; split <;> simp <;> omega

/-! ### one step of the scan -/
theorem scan_other {c : UInt8} (r : Bs) (h : c ≠ 34) : scan (c :: r) = (scan r).map (fun p => (c :: p.1, p.2 + 1)) := by
  cases r with
  | nil => simp [scan, h]
  | cons d r => simp [scan, h]
theorem scan_twice (r : Bs) : scan (34 :: 34 :: r) = (scan r).map (fun p => (34 :: p.1, p.2 + 2)) := by simp [scan]
theorem scan_end_nil : scan [34] = some ([], 1) := by simp [scan]
theorem scan_end {d : UInt8} (r : Bs) (h : d ≠ 34) : scan (34 :: d :: r) = some ([], 1) := by simp [scan, h]

theorem drop_toBs (s : ByteArray) (k : Nat) (h : k < s.size) : (toBs s).drop k = s[k] :: (toBs s).drop (k + 1) := by
  have h' : k < (toBs s).length := h
  rw [List.drop_eq_getElem_cons h']; rfl
theorem toList_eq_nil (s : ByteArray) : s.toList = [] ↔ s.size = 0 := by
  rw [Lib.toList_data]
  constructor
  · intro h; rw [← size_toBs, toBs, h]; rfl
  · intro h; rw [← size_toBs] at h; exact List.length_eq_zero_iff.1 h
theorem toList_beq_nil (s : ByteArray) (h : 0 < s.size) : (s.toList == []) = false := by
  rw [beq_eq_false_iff_ne]; intro e; have := (toList_eq_nil s).1 e; omega

/-- What has been got when k bytes have been looked at. -/
def GetRel (l : Bs) (k : Nat) (acc : Bs) : Prop := scan (l.drop 1) = (scan (l.drop k)).map (fun p => (acc ++ p.1, p.2 + (k - 1)))
theorem getRel_start (l : Bs) : GetRel l 1 [] := by
  unfold GetRel; cases scan (l.drop 1) <;> simp
theorem getRel_other (s : ByteArray) (k : Nat) (acc : Bs) (h1 : 1 ≤ k) (h : k < s.size) (hc : s[k] ≠ 34) (hr : GetRel (toBs s) k acc) : GetRel (toBs s) (k + 1) (acc ++ [s[k]]) := by
  unfold GetRel at *
  rw [hr, drop_toBs s k h, scan_other _ hc]
  cases scan ((toBs s).drop (k + 1)) <;> simp; omega
theorem getRel_twice (s : ByteArray) (k : Nat) (acc : Bs) (h1 : 1 ≤ k) (h : k + 1 < s.size) (hc : s[k] = 34) (hd : s[k + 1] = 34) (hr : GetRel (toBs s) k acc) : GetRel (toBs s) (k + 2) (acc ++ [34]) := by
  unfold GetRel at *
  rw [hr, drop_toBs s k (by omega), drop_toBs s (k + 1) h, hc, hd, scan_twice]
  cases scan ((toBs s).drop (k + 1 + 1)) <;> simp; omega
theorem getRel_end (s : ByteArray) (k : Nat) (acc : Bs) (h1 : 1 ≤ k) (h : k < s.size) (hc : s[k] = 34) (hd : ∀ h : k + 1 < s.size, s[k + 1] ≠ 34) (hr : GetRel (toBs s) k acc) : scan ((toBs s).drop 1) = some (acc, k) := by
  unfold GetRel at *
  rw [hr, drop_toBs s k h, hc]
  by_cases h2 : k + 1 < s.size
  · rw [drop_toBs s (k + 1) h2, scan_end _ (hd h2)]; simp; omega
  · rw [List.drop_eq_nil_of_le (by rw [size_toBs]; omega), scan_end_nil]; simp; omega
theorem getRel_none (s : ByteArray) (k : Nat) (acc : Bs) (h : ¬ k < s.size) (hr : GetRel (toBs s) k acc) : scan ((toBs s).drop 1) = none := by
  unfold GetRel at *
  rw [hr, List.drop_eq_nil_of_le (by rw [size_toBs]; omega)]; rfl
theorem getq_some (s : ByteArray) (h : 0 < s.size) (hc : s[0] = 34) (acc : Bs) (k : Nat) (hr : scan ((toBs s).drop 1) = some (acc, k)) : getq (toBs s) = (acc, k + 1, 0) := by
  have e := drop_toBs s 0 h
  rw [List.drop_zero] at e
  rw [e, getq, if_pos hc, hr]
theorem getq_none (s : ByteArray) (h : 0 < s.size) (hc : s[0] = 34) (hr : scan ((toBs s).drop 1) = none) : getq (toBs s) = ([], 0, 4) := by
  have e := drop_toBs s 0 h
  rw [List.drop_zero] at e
  rw [e, getq, if_pos hc, hr]
theorem getq_other (s : ByteArray) (h : 0 < s.size) (hc : s[0] ≠ 34) : getq (toBs s) = ([], 0, 3) := by
  have e := drop_toBs s 0 h
  rw [List.drop_zero] at e
  rw [e, getq, if_neg hc]
theorem getq_empty (s : ByteArray) (h : s.size = 0) : getq (toBs s) = ([], 0, 3) := by
  rw [List.length_eq_zero_iff.1 (by rw [size_toBs]; exact h : (toBs s).length = 0)]; rfl
theorem u8_eq {c : UInt8} (d : UInt8) (h : c = d) : ((c.toNat : Int) == (d.toNat : Int)) = true := by rw [h]; simp
theorem u8_ne {c : UInt8} (d : UInt8) (h : c ≠ d) : ((c.toNat : Int) == (d.toNat : Int)) = false := by
  rw [beq_eq_false_iff_ne]; intro e; exact h (UInt8.toNat_inj.1 (by omega))
theorem u8_eq' {c : UInt8} (d : UInt8) (h : c = d) : ((c.toNat : Int) != (d.toNat : Int)) = false := by rw [bne, u8_eq d h]; rfl
theorem u8_ne' {c : UInt8} (d : UInt8) (h : c ≠ d) : ((c.toNat : Int) != (d.toNat : Int)) = true := by rw [bne, u8_ne d h]; rfl

/-! ### what stands between quotes, each piece but the last one with the quote behind it -/
def pieces : Bs → Bs → List Bs
  | [], cur => [cur]
  | c :: r, cur => if c = 34 then (cur ++ [34]) :: pieces r [] else pieces r (cur ++ [c])
def accs : List Bs → Bs
  | [] => []
  | p :: r => 34 :: (p ++ accs r)
theorem accs_append (a b : List Bs) : accs (a ++ b) = accs a ++ accs b := by
  induction a with
  | nil => rfl
  | cons p r ih => simp [accs, ih]
theorem accs_snoc (a : List Bs) (p : Bs) : accs (a ++ [p]) = accs a ++ [34] ++ p := by rw [accs_append]; simp [accs]
theorem accs_pieces (l cur : Bs) : accs (pieces l cur) = 34 :: (cur ++ twice l) := by
  induction l generalizing cur with
  | nil => simp [pieces, accs, twice]
  | cons c r ih =>
    simp only [pieces, twice]
    by_cases h : c = 34
    · simp [h, accs, ih]
    · simp [h, ih]
theorem accs_length_le (M : Nat) : ∀ l : List Bs, (∀ p ∈ l, p.length ≤ M) → (accs l).length ≤ l.length * (M + 1)
  | [], _ => by simp [accs]
  | p :: r, h => by
    have h1 := h p (by simp)
    have h2 := accs_length_le M r (fun q hq => h q (by simp [hq]))
    simp only [accs, List.length_cons, List.length_append, Nat.add_mul]
    omega
/-- At i bytes looked at, 'from' of them told. -/
def PcRel (l : Bs) (pre : List Bs) (i fr : Nat) : Prop := pieces l [] = pre ++ pieces (l.drop i) ((l.take i).drop fr)
theorem toBs_extract (s : ByteArray) (a b : Nat) : toBs (s.extract a b) = ((toBs s).take b).drop a := by rw [List.drop_take]; exact Lib.extract_data s a b
theorem pcRel_start (l : Bs) : PcRel l [] 0 0 := by simp [PcRel]
theorem take_drop_snoc (s : ByteArray) (i fr : Nat) (h : i < s.size) (hf : fr ≤ i) : ((toBs s).take (i + 1)).drop fr = ((toBs s).take i).drop fr ++ [s[i]] := by
  have h' : i < (toBs s).length := h
  rw [List.take_succ_eq_append_getElem h', List.drop_append_of_le_length (by rw [List.length_take]; omega)]; rfl
theorem pcRel_other (s : ByteArray) (pre : List Bs) (i fr : Nat) (h : i < s.size) (hf : fr ≤ i) (hc : s[i] ≠ 34) (hr : PcRel (toBs s) pre i fr) : PcRel (toBs s) pre (i + 1) fr := by
  unfold PcRel at *
  rw [hr, drop_toBs s i h, pieces, if_neg hc, take_drop_snoc s i fr h hf]
theorem pcRel_quote (s : ByteArray) (pre : List Bs) (i fr : Nat) (h : i < s.size) (hf : fr ≤ i) (hc : s[i] = 34) (hr : PcRel (toBs s) pre i fr) :
    PcRel (toBs s) (pre ++ [toBs (s.extract fr (i + 1))]) (i + 1) (i + 1) := by
  unfold PcRel at *
  have e : toBs (s.extract fr (i + 1)) = ((toBs s).take i).drop fr ++ [34] := by
    rw [← hc, ← take_drop_snoc s i fr h hf, toBs_extract]
  rw [hr, drop_toBs s i h, pieces, if_pos hc, e]
  simp
theorem pcRel_end (s : ByteArray) (pre : List Bs) (i fr : Nat) (h : ¬ i < s.size) (hf : fr ≤ i) (hr : PcRel (toBs s) pre i fr) :
    pre ++ [toBs (s.extract fr s.size)] = pieces (toBs s) [] := by
  unfold PcRel at *
  have e : toBs (s.extract fr s.size) = ((toBs s).take i).drop fr := by
    rw [List.take_of_length_le (by rw [size_toBs]; omega)]; exact Lib.extract_to_end s fr
  rw [hr, List.drop_eq_nil_of_le (by rw [size_toBs]; omega), pieces, e]
end Go.Proofs.Ytggodagdfldndaa
