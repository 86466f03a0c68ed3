/- What the printed Lean functions of chapter 1 come to, with enough rounds: the plain functions. -/
import Derived.Test.YtggodagdfldndaaQ4
import Derived.Test.YtggodagdfldndaaQ2
import Derived.Test.YtggodagdfldndaaQ1
import Derived.Test.YtggodagdfldndaaT
namespace Go.Proofs.Ytggodagdfldndaa.Q
open Go.RowKit Go.Proofs.YtggodagdfldndaaW.PrintWords Go.Proofs.YtggodagdfldndaaW.PrintLast

theorem bt_nat (s : ByteArray) (i : Nat) (h : i < s.size) : bt s i = (s[i].toNat : Int) := (bt_at s i (by simpa using h)).symm
theorem wrap_succ {i : Nat} {n : Nat} (h : i < n) (hn : n ≤ 140737488351232) (c : Nat) (hc : c ≤ 3) : wrap64 ((i : Int) + c) = ((i + c : Nat) : Int) := by
  unfold wrap64; omega
theorem u8_int_ne {c : UInt8} (d : UInt8) (h : c ≠ d) : ¬ (c.toNat : Int) = (d.toNat : Int) := fun e => h (UInt8.toNat_inj.1 (by omega))
theorem u8_int_eq {c : UInt8} (d : UInt8) (h : c = d) : (c.toNat : Int) = (d.toNat : Int) := by rw [h]
theorem b34_ne {c : UInt8} (h : c ≠ 34) : ¬ (c.toNat : Int) = 34 := u8_int_ne 34 h
theorem b34_eq {c : UInt8} (h : c = 34) : (c.toNat : Int) = 34 := u8_int_eq 34 h
theorem b34_ne' {c : UInt8} (h : c ≠ 34) : ((c.toNat : Int) != 34) = true := u8_ne' 34 h
theorem quote_Good_f (d : Int) : quote_Good.f d = some (goodI d) := by
  unfold quote_Good.f goodI
  by_cases h1 : d = 34
  · simp [h1]
  · by_cases h2 : d = 13
    · simp [h2]
    · by_cases h3 : d = 10 <;> simp [h1, h2, h3]
theorem quote_Plain_l0 (s : ByteArray) (d : Int) (hs : s.size ≤ 140737488351232) : ∀ (m k i : Nat), i + m = s.size → m < k → quote_Plain.l0 k s d (s.size : Int) i = some (plain ((toBs s).drop i) d) := by
  intro m
  induction m with
  | zero =>
    intro k i hi hk
    obtain ⟨k, rfl⟩ : ∃ q, k = q + 1 := ⟨k - 1, by omega⟩
    simp only [quote_Plain.l0]
    rw [if_neg (by omega), List.drop_eq_nil_of_le (by rw [size_toBs]; omega)]; rfl
  | succ m ih =>
    intro k i hi hk
    obtain ⟨k, rfl⟩ : ∃ q, k = q + 1 := ⟨k - 1, by omega⟩
    have hlt : i < s.size := by omega
    simp only [quote_Plain.l0]
    rw [if_pos (by omega), if_pos (by omega), if_pos (by omega), bt_nat s i hlt, drop_toBs s i hlt, quote_Good_f]
    simp only [Option.bind_some]
    have e := wrap_succ hlt hs 1 (by omega)
    rw [show ((1 : Nat) : Int) = 1 from rfl] at e
    rw [e, ih k (i + 1) (by omega) (by omega)]
    unfold plain
    rw [List.all_cons]
    by_cases h1 : (s[i].toNat : Int) = d
    · simp [h1]
    · rw [if_neg h1]
      by_cases h2 : goodI (s[i].toNat : Int) = true
      · simp [h2, h1]
      · simp [h2]
theorem quote_Plain_f (s : ByteArray) (d : Int) (hs : s.size ≤ 140737488351232) (k : Nat) (hk : s.size < k) : quote_Plain.f k s d = some (plain (toBs s) d) := by
  have := quote_Plain_l0 s d hs s.size k 0 (by omega) hk
  rwa [List.drop_zero] at this
theorem quote_Put_f (s : ByteArray) (d : Int) (hs : s.size ≤ 1048576) (k : Nat) (hk : s.size < k) : quote_Put.f k s d = some (ofBs (put (toBs s) d)) := by
  unfold quote_Put.f quote_Quoted.f put
  rw [quote_Plain_f s d (by omega) k hk]
  simp only [Option.bind_some]
  split
  · rw [ofBs_toBs]
  · simp only [if_pos hs, Option.bind_some]
theorem quote_Size_f (s : ByteArray) (d : Int) (hs : s.size ≤ 1048576) (k : Nat) (hk : s.size < k) : quote_Size.f k s d = some ((put (toBs s) d).length : Int) := by
  unfold quote_Size.f put
  rw [quote_Plain_f s d (by omega) k hk]
  simp only [Option.bind_some]
  split
  · rw [size_toBs]
  · have e : strings_Count.f s (strOfNums ([34] : List Int)) = some ((Lib.countByte (toBs s) 34 : Nat) : Int) := by
      have : toBs (strOfNums ([34] : List Int)) = [34] := by decide
      unfold strings_Count.f; rw [this]
    rw [e]
    simp only [Option.bind_some, quoted_length, Lib.countByte]
    have hc : (toBs s).count 34 ≤ (toBs s).length := List.count_le_length
    rw [size_toBs] at hc ⊢
    congr 1
    unfold wrap64; omega
theorem ref01_Good_f (d : Int) : tartanref01_Good.f d = some (goodI d) := by
  unfold tartanref01_Good.f goodI
  by_cases h1 : d = 34
  · simp [h1]
  · by_cases h2 : d = 13
    · simp [h2]
    · have e1 : (d != 34) = true := by simpa using h1
      have e2 : (d != 13) = true := by simpa using h2
      simp [h1, h2, e1, e2]
theorem ref01_Plain_l0 (s : ByteArray) (d : Int) (hs : s.size ≤ 140737488351232) : ∀ (m k i : Nat), i + m = s.size → m < k → tartanref01_Plain.l0 k s d i = some (plain ((toBs s).drop i) d) := by
  intro m
  induction m with
  | zero =>
    intro k i hi hk
    obtain ⟨k, rfl⟩ : ∃ q, k = q + 1 := ⟨k - 1, by omega⟩
    simp only [tartanref01_Plain.l0]
    rw [if_neg (by omega), List.drop_eq_nil_of_le (by rw [size_toBs]; omega)]; rfl
  | succ m ih =>
    intro k i hi hk
    obtain ⟨k, rfl⟩ : ∃ q, k = q + 1 := ⟨k - 1, by omega⟩
    have hlt : i < s.size := by omega
    simp only [tartanref01_Plain.l0]
    rw [if_pos (by omega), if_pos (by omega), bt_nat s i hlt, drop_toBs s i hlt]
    have e := wrap_succ hlt hs 1 (by omega)
    rw [show ((1 : Nat) : Int) = 1 from rfl] at e
    rw [e, ih k (i + 1) (by omega) (by omega)]
    unfold plain goodI
    rw [List.all_cons]
    generalize (s[i].toNat : Int) = c
    by_cases h1 : c = 34
    · simp [h1]
    · by_cases h2 : c = 13
      · simp [h2]
      · by_cases h3 : c = 10
        · simp [h3]
        · by_cases h4 : c = d <;> simp [h1, h2, h3, h4]
theorem ref01_Plain_f (s : ByteArray) (d : Int) (hs : s.size ≤ 140737488351232) (k : Nat) (hk : s.size < k) : tartanref01_Plain.f k s d = some (plain (toBs s) d) := by
  have := ref01_Plain_l0 s d hs s.size k 0 (by omega) hk
  rwa [List.drop_zero] at this
theorem toBs_tail (s : ByteArray) : toBs (s.extract 1 s.size) = (toBs s).drop 1 := Lib.extract_to_end s 1
theorem ref01_twice_f : ∀ (n : Nat) (s : ByteArray) (k : Nat), s.size = n → n ≤ 1048576 → n < k → tartanref01_twice.f k s = some (ofBs (twice (toBs s))) := by
  intro n
  induction n with
  | zero =>
    intro s k hs _ hk
    obtain ⟨k, rfl⟩ : ∃ q, k = q + 1 := ⟨k - 1, by omega⟩
    have e : toBs s = [] := List.length_eq_zero_iff.1 (by rw [size_toBs]; exact hs)
    simp only [tartanref01_twice.f]
    rw [if_pos (by rw [toList_toBs, e]), e]; rfl
  | succ n ih =>
    intro s k hs hb hk
    obtain ⟨k, rfl⟩ : ∃ q, k = q + 1 := ⟨k - 1, by omega⟩
    have h0 : 0 < s.size := by omega
    have e := drop_toBs s 0 h0
    rw [List.drop_zero] at e
    have hlen := twice_length_le (toBs (s.extract 1 s.size))
    rw [size_toBs, ByteArray.size_extract] at hlen
    have hrec := ih (s.extract 1 s.size) k (by rw [ByteArray.size_extract]; omega) (by omega) (by omega)
    have b0 := bt_nat s 0 h0
    simp only [tartanref01_twice.f]
    rw [if_neg (by rw [toList_toBs, e]; simp), if_pos (by omega), show bt s 0 = (s[0].toNat : Int) from b0, hrec]
    simp only [Option.bind_some]
    rw [toBs_tail, List.drop_one] at *
    have e2 : toBs s = s[0] :: (toBs s).tail := by rw [e]; rfl
    by_cases hc : s[0] = 34
    · rw [if_pos (by rw [hc]; rfl), if_pos (by omega), if_pos (by rw [size_ofBs]; omega), e2]
      rw [twice, if_pos hc]
      congr 1
    · rw [if_neg (b34_ne hc), if_pos (by omega), if_pos (by omega), if_pos (by rw [size_ofBs, ByteArray.size_extract]; omega)]
      have e3 : s.extract 0 1 = ofBs [s[0]] := by
        apply eq_ofBs
        rw [show toBs (s.extract 0 1) = ((toBs s).take 1).drop 0 from toBs_extract s 0 1, e2]; rfl
      rw [e3, ← ofBs_append]
      conv => rhs; rw [e2, twice, if_neg hc]
      rfl
theorem ref01_Quoted_f (s : ByteArray) (hs : s.size ≤ 1048576) (k : Nat) (hk : s.size < k) : tartanref01_Quoted.f k s = some (ofBs (quoted (toBs s))) := by
  unfold tartanref01_Quoted.f
  rw [ref01_twice_f s.size s k rfl hs hk]
  have hlen := twice_length_le (toBs s)
  rw [size_toBs] at hlen
  simp only [Option.bind_some]
  rw [if_pos (by rw [size_ofBs]; omega), if_pos (by rw [ByteArray.size_append, size_ofBs]; simp only [show (⟨#[34]⟩ : ByteArray).size = 1 from rfl]; omega)]
  rw [show (⟨#[34]⟩ : ByteArray) = ofBs [34] from rfl, ← ofBs_append, ← ofBs_append]
  rfl
theorem ref01_Put_f (s : ByteArray) (d : Int) (hs : s.size ≤ 1048576) (k : Nat) (hk : s.size < k) : tartanref01_Put.f k s d = some (ofBs (put (toBs s) d)) := by
  unfold tartanref01_Put.f put
  rw [ref01_Plain_f s d (by omega) k hk, ref01_Quoted_f s hs k hk]
  simp only [Option.bind_some]
  split
  · rw [ofBs_toBs]
  · rfl

theorem quote_Quoted_f (s : ByteArray) (hs : s.size ≤ 1048576) : quote_Quoted.f s = some (ofBs (quoted (toBs s))) := by unfold quote_Quoted.f; rw [if_pos hs]
theorem quote_Get_f (s : ByteArray) (hs : s.size ≤ 1048576) : quote_Get.f s = some (ofBs (getq (toBs s)).1, ((getq (toBs s)).2.1 : Int), ((getq (toBs s)).2.2 : Int)) := by unfold quote_Get.f; rw [if_pos hs]
/-- The document's examples. -/
theorem works01 (k : Nat) (hk : 10 < k) : tartanlaw01_works.f k = some true := by
  unfold tartanlaw01_works.f
  rw [quote_Get_f _ (by decide), quote_Get_f _ (by decide), quote_Get_f _ (by decide), quote_Put_f _ _ (by decide) k (by show 3 < k; omega), quote_Put_f _ _ (by decide) k (by show 3 < k; omega), quote_Quoted_f _ (by decide), quote_Plain_f _ _ (by decide) k (by show 2 < k; omega), quote_Plain_f _ _ (by decide) k (by show 2 < k; omega), quote_Size_f _ _ (by decide) k (by show 2 < k; omega), quote_Good_f, quote_Good_f]
  decide +kernel

theorem ref01_rest_l0 (s : ByteArray) (hs : s.size ≤ 1048576) : ∀ (m k i : Nat) (acc : Bs), s.size ≤ i + m → m < k → acc.length ≤ i → i ≤ s.size →
    tartanref01_rest.l0 k s (ofBs acc) i = some (match scan ((toBs s).drop i) with | none => (ofBs [], 0, false) | some p => (ofBs (acc ++ p.1), ((p.2 + i : Nat) : Int), true)) := by
  intro m
  induction m with
  | zero =>
    intro k i acc hi hk _ _
    obtain ⟨k, rfl⟩ : ∃ q, k = q + 1 := ⟨k - 1, by omega⟩
    simp only [tartanref01_rest.l0]
    rw [if_neg (by omega), List.drop_eq_nil_of_le (by rw [size_toBs]; omega)]; rfl
  | succ m ih =>
    intro k i acc hi hk ha hi2
    obtain ⟨k, rfl⟩ : ∃ q, k = q + 1 := ⟨k - 1, by omega⟩
    simp only [tartanref01_rest.l0]
    by_cases hlt : i < s.size
    · have e1 := wrap_succ hlt (by omega) 1 (by omega)
      have e2 := wrap_succ hlt (by omega) 2 (by omega)
      rw [show ((1 : Nat) : Int) = 1 from rfl] at e1
      rw [show ((2 : Nat) : Int) = 2 from rfl] at e2
      rw [if_pos (by omega), if_pos (by omega), bt_nat s i hlt, e1, e2, drop_toBs s i hlt]
      by_cases hc : s[i] = 34
      · rw [if_pos (b34_eq hc), hc]
        by_cases hlt2 : i + 1 < s.size
        · rw [if_pos (by omega), if_pos (by omega), bt_nat s (i + 1) hlt2, drop_toBs s (i + 1) hlt2]
          by_cases hd : s[i + 1] = 34
          · rw [if_pos (b34_eq hd), if_pos (by rw [size_ofBs]; omega), show (⟨#[34]⟩ : ByteArray) = ofBs [34] from rfl, ← ofBs_append, ih k (i + 2) (acc ++ [34]) (by omega) (by omega) (by simp; omega) (by omega), hd, scan_twice]
            cases scan ((toBs s).drop (i + 2)) with
            | none => rfl
            | some p => simp; omega
          · rw [if_neg (b34_ne hd), scan_end _ hd]
            simp; omega
        · rw [if_neg (by omega), List.drop_eq_nil_of_le (by rw [size_toBs]; omega), scan_end_nil]
          simp; omega
      · have e3 : s.extract ((i : Int)).toNat (((i + 1 : Nat) : Int)).toNat = ofBs [s[i]] := by
          apply eq_ofBs
          rw [toBs_extract]
          simp only [Int.toNat_natCast]
          rw [take_drop_snoc s i i hlt (Nat.le_refl _), List.drop_eq_nil_of_le (by rw [List.length_take]; omega)]; rfl
        rw [if_neg (b34_ne hc), if_pos (by omega), if_pos (by omega), e3, if_pos (by rw [size_ofBs, size_ofBs]; simp; omega), ← ofBs_append, ih k (i + 1) (acc ++ [s[i]]) (by omega) (by omega) (by simp; omega) (by omega), scan_other _ hc]
        cases scan ((toBs s).drop (i + 1)) with
        | none => rfl
        | some p => simp; omega
    · rw [if_neg (by omega), List.drop_eq_nil_of_le (by rw [size_toBs]; omega)]; rfl
theorem ref01_Get_f (s : ByteArray) (hs : s.size ≤ 1048576) (k : Nat) (hk : s.size + 3 < k) : tartanref01_Get.f k s = some (ofBs (getq (toBs s)).1, ((getq (toBs s)).2.1 : Int), ((getq (toBs s)).2.2 : Int)) := by
  obtain ⟨k, rfl⟩ : ∃ q, k = q + 1 := ⟨k - 1, by omega⟩
  unfold tartanref01_Get.f
  by_cases h0 : s.size = 0
  · rw [if_pos ((toList_eq_nil s).2 h0), getq_empty s h0]
    simp only [tartanref01_Get.j0]; rfl
  · have h0' : 0 < s.size := by omega
    rw [if_neg (fun e => h0 ((toList_eq_nil s).1 e)), if_pos (by omega), show bt s 0 = (s[0].toNat : Int) from bt_nat s 0 h0']
    simp only [tartanref01_Get.j0]
    by_cases hc : s[0] = 34
    · rw [if_neg (by rw [hc]; simp)]
      have hr := ref01_rest_l0 s hs s.size k 1 [] (by omega) (by omega) (by simp) (by omega)
      rw [show tartanref01_rest.f k s (⟨#[]⟩ : ByteArray) 1 = tartanref01_rest.l0 k s (ofBs []) ((1 : Nat) : Int) from rfl, hr]
      cases hs1 : scan ((toBs s).drop 1) with
      | none => rw [getq_none s h0' hc hs1]; rfl
      | some p => rw [getq_some s h0' hc p.1 p.2 hs1]; simp
    · rw [if_pos (b34_ne' hc), getq_other s h0' hc]; rfl
end Go.Proofs.Ytggodagdfldndaa.Q
