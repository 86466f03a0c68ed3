/- What the printed Lean functions of chapter 18 come to, with enough rounds: the plain functions; the document's examples hold. -/
import Derived.Test.YtggodagdfldndaaDoorQ2
import Derived.Test.YtggodagdfldndaaDoorS2
namespace Go.Proofs.YtggodagdfldndaaDoor.Q
open Go.RowKit Go.Proofs.YtggodagdfldndaaDoorW.PrintWords Go.Proofs.YtggodagdfldndaaDoorW.PrintLast
theorem wrap_nat (a b : Nat) (h : a + b ≤ 9223372036854775807) : wrap64 ((a : Int) + (b : Int)) = ((a + b : Nat) : Int) := by
  unfold wrap64; omega
theorem w1 (n : Nat) (h : n ≤ 1000000) : wrap64 ((n : Int) + 1) = ((n + 1 : Nat) : Int) := wrap_nat n 1 (by omega)
theorem rdOf_nat (l : List ByteArray) (i : Nat) (h : i < l.length) : rdOf ByteArray.empty l (i : Int) = l[i] := by
  unfold rdOf
  simp [h]
theorem is_f (s : ByteArray) (hs : s.size ≤ 1000000) : arrow_Is.f s = some (isR (toBs s) : Int) := by
  unfold arrow_Is.f strings_CutSuffix.f
  rw [if_pos (by omega), Option.bind_some, ← is_eq, show toBs (⟨#[62]⟩ : ByteArray) = [62] from rfl]
  dsimp only
  by_cases h : Lib.hasSuffix (toBs s) [62] = true
  · rw [if_pos h, if_pos h]
    have hl : (ofBs (Lib.trimSuffix (toBs s) [62])).size ≤ 9223372036854775807 := by
      rw [size_ofBs]
      have := Lib.trimSuffix_le (toBs s) [62]
      rw [size_toBs] at this
      omega
    have e : strings_Trim.f (ofBs (Lib.trimSuffix (toBs s) [62])) (⟨#[45]⟩ : ByteArray) = some (ofBs (Lib.trimB (Lib.trimSuffix (toBs s) [62]) 45)) := by
      unfold strings_Trim.f
      rw [show toBs (⟨#[45]⟩ : ByteArray) = [45] from rfl]
      dsimp only
      rw [if_pos ⟨hl, by decide⟩, toBs_ofBs]
    rw [e, Option.bind_some, toList_ofBs, size_ofBs]
    by_cases h2 : Lib.trimB (Lib.trimSuffix (toBs s) [62]) 45 = []
    · rw [if_pos h2, if_pos h2]
    · rw [if_neg h2, if_neg h2]; rfl
  · rw [if_neg h, if_neg h]; rfl
/-- A split, as texts. -/
def outS (p : Bs × Bs × Bool) : ByteArray × ByteArray × Bool := (ofBs p.1, ofBs p.2.1, p.2.2)
theorem split_f (s w : ByteArray) (hs : s.size ≤ 1000000) (hw : w.size ≤ 1000000) : arrow_Split.f s w = some (outS (splitR (toBs s) (toBs w))) := by
  unfold arrow_Split.f splitR
  rw [is_f w hw, Option.bind_some]
  by_cases h : isR (toBs w) = 0
  · rw [if_pos (by omega), if_pos h]; rfl
  · rw [if_neg (by omega), if_neg h]
    unfold strings_Cut.f Lib.cut
    rw [if_pos (by omega), Option.bind_some]
    by_cases h2 : 0 ≤ Lib.index (toBs s) (toBs w)
    · rw [if_pos h2, if_pos h2]
      dsimp only
      rw [if_pos rfl]; rfl
    · rw [if_neg h2, if_neg h2]
      dsimp only
      rw [if_neg (by decide)]; rfl
theorem join_f (a b w : ByteArray) (h : a.size + b.size + w.size ≤ 1000000) : arrow_Join.f a b w = some (a ++ w ++ b) := by
  unfold arrow_Join.f
  rw [if_pos (by omega), if_pos (by rw [ByteArray.size_append]; omega)]
theorem arrow_f (l : List ByteArray) (hf : Few l) : arrow_Arrow.f l = some (ofBs (arrowB (arrowN l))) := by
  unfold arrow_Arrow.f
  rw [if_pos (List.all_eq_true.2 (fun x hx => decide_eq_true (hf x hx)))]
theorem works18 : tartanlaw18_works.f = some true := by
  unfold tartanlaw18_works.f
  rw [split_f _ _ (by decide) (by decide), split_f _ _ (by decide) (by decide), arrow_f _ (by intro x hx; simp only [List.mem_cons, List.not_mem_nil, or_false] at hx; rcases hx with rfl | rfl <;> decide), arrow_f _ (by intro x hx; simp only [List.mem_cons, List.not_mem_nil, or_false] at hx; rcases hx with rfl; decide),
    join_f _ _ _ (by decide), is_f _ (by decide), is_f _ (by decide)]
  decide +kernel
/-! ### the reference -/
theorem bt_nat (s : ByteArray) (i : Nat) (h : i < s.size) : bt s i = (s[i].toNat : Int) := (bt_at s i (by simpa using h)).symm
theorem byte_eq {c : UInt8} (d : UInt8) : (c.toNat : Int) = (d.toNat : Int) ↔ c = d := ⟨fun e => UInt8.toNat_inj.1 (by omega), fun e => by rw [e]⟩
theorem b45 {c : UInt8} : (c.toNat : Int) = 45 ↔ c = 45 := byte_eq 45
theorem b62 {c : UInt8} : (c.toNat : Int) = 62 ↔ c = 62 := byte_eq 62
theorem ref_is_l0 (s : ByteArray) (hs : s.size ≤ 100000) (h2 : 2 ≤ s.size) (hlast : s[s.size - 1] = 62) : ∀ (m k i : Nat), i + m = s.size - 1 → m < k → (∀ j, j < i → (toBs s)[j]? = some 45) → tartanref18_Is.l0 k s ((s.size - 1 : Nat) : Int) i = some (isR (toBs s) : Int) := by
  intro m
  induction m with
  | zero =>
    intro k i hi hk hj
    obtain ⟨k, rfl⟩ : ∃ q, k = q + 1 := ⟨k - 1, by omega⟩
    rw [tartanref18_Is.l0, if_neg (by omega)]
    have e : toBs s = arrowB (s.size - 1) := by
      unfold arrowB
      apply List.ext_getElem?
      intro j
      by_cases h3 : j < s.size - 1
      · rw [hj j (by omega), List.getElem?_append_left (by simp; omega), List.getElem?_replicate, if_pos h3]
      · by_cases h4 : j = s.size - 1
        · subst h4
          rw [List.getElem?_append_right (by simp), List.length_replicate, Nat.sub_self, List.getElem?_eq_getElem (by rw [size_toBs]; omega)]
          exact congrArg some hlast
        · rw [List.getElem?_eq_none (by rw [size_toBs]; omega), List.getElem?_eq_none (by simp; omega)]
    rw [e, isR_arrow]
  | succ m ih =>
    intro k i hi hk hj
    obtain ⟨k, rfl⟩ : ∃ q, k = q + 1 := ⟨k - 1, by omega⟩
    have hlt : i < s.size := by omega
    rw [tartanref18_Is.l0, if_pos (by omega), if_pos (by omega), if_pos (by omega), bt_nat s i hlt]
    by_cases h45 : s[i] = 45
    · rw [if_pos (b45.2 h45), w1 i (by omega)]
      refine ih k (i + 1) (by omega) (by omega) (fun j hj2 => ?_)
      by_cases e : j = i
      · subst e
        rw [List.getElem?_eq_getElem (by rw [size_toBs]; omega)]
        exact congrArg some h45
      · exact hj j (by omega)
    · rw [if_neg (fun h => h45 (b45.1 h))]
      have : isR (toBs s) = 0 := by
        unfold isR
        rw [if_neg]
        rintro ⟨h3, _⟩
        apply h45
        have h4 : (toBs s)[i]? = (arrowB ((toBs s).length - 1))[i]? := by rw [← h3]
        rw [List.getElem?_eq_getElem (by rw [size_toBs]; omega)] at h4
        unfold arrowB at h4
        rw [List.getElem?_append_left (by simp [size_toBs]; omega), List.getElem?_replicate, if_pos (by rw [size_toBs]; omega)] at h4
        exact Option.some.inj h4
      rw [this]; rfl
theorem ref_is_f (s : ByteArray) (hs : s.size ≤ 100000) (k : Nat) (hk : s.size + 1 < k) : tartanref18_Is.f k s = some (isR (toBs s) : Int) := by
  obtain ⟨k, rfl⟩ : ∃ q, k = q + 1 := ⟨k - 1, by omega⟩
  unfold tartanref18_Is.f
  by_cases h2 : s.size < 2
  · have e0 : wrap64 ((s.size : Int) - 1) < 1 := by unfold wrap64; omega
    have e1 : isR (toBs s) = 0 := by
      unfold isR
      rw [if_neg (by rintro ⟨_, h⟩; rw [size_toBs] at h; omega)]
    rw [if_pos e0, tartanref18_Is.j0, if_pos rfl, e1]; rfl
  · rw [show wrap64 ((s.size : Int) - 1) = ((s.size - 1 : Nat) : Int) from by unfold wrap64; omega, if_neg (by omega), if_pos (by omega), if_pos (by omega), bt_nat s (s.size - 1) (by omega)]
    by_cases h : s[s.size - 1] = 62
    · rw [show (((s[s.size - 1].toNat : Nat) : Int) != 62) = false from bne_eq_false_iff_eq.2 (b62.2 h), tartanref18_Is.j0, if_neg (by decide)]
      exact ref_is_l0 s hs (by omega) h (s.size - 1) k 0 (by omega) (by omega) (fun j hj => by omega)
    · rw [show (((s[s.size - 1].toNat : Nat) : Int) != 62) = true from bne_iff_ne.2 (fun e => h (b62.1 e)), tartanref18_Is.j0, if_pos rfl]
      have : isR (toBs s) = 0 := by
        unfold isR
        rw [if_neg]
        rintro ⟨h3, _⟩
        apply h
        have h4 : (toBs s)[s.size - 1]? = (arrowB ((toBs s).length - 1))[s.size - 1]? := by rw [← h3]
        rw [List.getElem?_eq_getElem (by rw [size_toBs]; omega)] at h4
        unfold arrowB at h4
        rw [List.getElem?_append_right (by simp [size_toBs])] at h4
        simp [size_toBs] at h4
        exact h4
      rw [this]; rfl
theorem occ_take (s p : Bs) (i : Nat) (h : i + p.length ≤ s.length) : Lib.occAt s p i = true ↔ (s.drop i).take p.length = p := by
  rw [occAt_iff]
  constructor
  · rintro ⟨r, hr⟩
    rw [← hr, List.take_left]
  · intro h2
    refine ⟨(s.drop i).drop p.length, ?_⟩
    have := List.take_append_drop p.length (s.drop i)
    rw [h2] at this
    exact this
theorem find_l0 (s p : ByteArray) (hs : s.size ≤ 100000) (hp : p.size ≤ 100000) : ∀ (m k i : Nat), i + m = s.size + 1 → m < k → Lib.NoOcc (toBs s) (toBs p) i → tartanref18_find.l0 k s p i = some (Lib.index (toBs s) (toBs p)) := by
  intro m
  induction m with
  | zero =>
    intro k i hi hk hno
    obtain ⟨k, rfl⟩ : ∃ q, k = q + 1 := ⟨k - 1, by omega⟩
    rw [tartanref18_find.l0, wrap_nat i p.size (by omega), if_neg (by omega)]
    by_cases he : toBs p = []
    · exfalso
      have := hno 0 (by omega)
      rw [he] at this
      cases h : toBs s <;> simp [Lib.occAt, h] at this
    · rw [Lib.index_past he hno (by rw [size_toBs, size_toBs]; omega)]
  | succ m ih =>
    intro k i hi hk hno
    obtain ⟨k, rfl⟩ : ∃ q, k = q + 1 := ⟨k - 1, by omega⟩
    rw [tartanref18_find.l0, wrap_nat i p.size (by omega)]
    by_cases hr : i + p.size ≤ s.size
    · rw [if_pos (by omega), if_pos (by omega), if_pos (by omega), Int.toNat_natCast, Int.toNat_natCast, toList_toBs, toList_toBs, toBs_extract]
      have ho := occ_take (toBs s) (toBs p) i (by rw [size_toBs, size_toBs]; omega)
      rw [List.drop_take, Nat.add_sub_cancel_left]
      rw [size_toBs] at ho
      by_cases h : ((toBs s).drop i).take p.size = toBs p
      · rw [if_pos h, Lib.index_hit hno (by rw [size_toBs]; omega) (ho.2 h)]
      · rw [if_neg h, w1 i (by omega)]
        refine ih k (i + 1) (by omega) (by omega) (fun j hj => ?_)
        by_cases e : j = i
        · subst e
          rw [Bool.eq_false_iff]
          exact fun h2 => h (ho.1 h2)
        · exact hno j (by omega)
    · rw [if_neg (by omega)]
      by_cases he : toBs p = []
      · exfalso
        have hp0 : p.size = 0 := by rw [← size_toBs, he]; rfl
        omega
      · rw [Lib.index_past he hno (by rw [size_toBs, size_toBs]; omega)]
theorem find_f (s p : ByteArray) (hs : s.size ≤ 100000) (hp : p.size ≤ 100000) (k : Nat) (hk : s.size + 1 < k) : tartanref18_find.f k s p = some (Lib.index (toBs s) (toBs p)) := by
  unfold tartanref18_find.f
  exact find_l0 s p hs hp (s.size + 1) k 0 (by omega) (by omega) (fun j hj => by omega)
theorem ref_split_f (s w : ByteArray) (hs : s.size ≤ 100000) (hw : w.size ≤ 100000) (k : Nat) (hk : s.size + w.size + 2 < k) : tartanref18_Split.f k s w = some (outS (splitR (toBs s) (toBs w))) := by
  unfold tartanref18_Split.f splitR
  rw [find_f s w hs hw k (by omega), Option.bind_some, ref_is_f w hw k (by omega), Option.bind_some]
  by_cases h : isR (toBs w) = 0
  · rw [if_pos (by omega), if_pos h]; rfl
  · rw [if_neg (by omega), if_neg h]
    by_cases h2 : 0 ≤ Lib.index (toBs s) (toBs w)
    · have hroom := Lib.index_room _ _ h2
      rw [size_toBs, size_toBs] at hroom
      obtain ⟨i, hi⟩ := Int.eq_ofNat_of_zero_le h2
      rw [hi] at hroom ⊢
      rw [if_neg (by omega), if_pos (by omega), if_pos (by omega), wrap_nat i w.size (by omega), if_pos (by omega), if_pos (by omega), if_pos (by omega)]
      unfold outS
      dsimp only
      rw [Int.toNat_natCast, Int.toNat_natCast, eq_ofBs (toBs_extract s 0 i), eq_ofBs (toBs_extract s (i + w.size) s.size), List.drop_zero, ← size_toBs s, List.take_length, size_toBs]
    · rw [if_pos (by omega), if_neg h2]; rfl
theorem of_l0 (n : Nat) (hn : n ≤ 100000) : ∀ (m k i : Nat), i + m = n → m < k → tartanref18_of.l0 k (n : Int) (ofBs (arrowB i)) i = some (ofBs (arrowB n)) := by
  intro m
  induction m with
  | zero =>
    intro k i hi hk
    obtain ⟨k, rfl⟩ : ∃ q, k = q + 1 := ⟨k - 1, by omega⟩
    rw [tartanref18_of.l0, if_neg (by omega), show i = n by omega]
  | succ m ih =>
    intro k i hi hk
    obtain ⟨k, rfl⟩ : ∃ q, k = q + 1 := ⟨k - 1, by omega⟩
    rw [tartanref18_of.l0, if_pos (by omega), if_pos (by rw [size_ofBs, arrowB_length]; omega), arrow_next, w1 i (by omega)]
    exact ih k (i + 1) (by omega) (by omega)
theorem of_f (n : Nat) (hn : n ≤ 100000) (k : Nat) (hk : n < k) : tartanref18_of.f k (n : Int) = some (ofBs (arrowB n)) := by
  unfold tartanref18_of.f
  have : tartanref18_of.l0 k (n : Int) (ofBs (arrowB 0)) 0 = _ := of_l0 n hn n k 0 (by omega) hk
  exact this
theorem has_mono {n : Nat} {x : ByteArray} (h : has (arrowB (n + 1)) x = true) : has (arrowB n) x = true := by
  rw [has_iff] at h ⊢
  rcases Lib.index_spec (toBs x) (arrowB (n + 1)) with ⟨h1, _⟩ | ⟨i, h1, h2, h3, _⟩
  · omega
  · obtain ⟨r, hr⟩ := (occAt_iff _ _ i).1 h3
    rcases Lib.index_spec (toBs x) (arrowB n) with ⟨g1, g2⟩ | ⟨j, g1, _⟩
    · exfalso
      have hl := congrArg List.length hr
      rw [List.length_append, arrowB_length, List.length_drop] at hl
      have := g2 (i + 1) (by omega)
      rw [Bool.eq_false_iff] at this
      apply this
      rw [occAt_iff, ← List.drop_drop, ← hr, arrowB_succ]
      exact ⟨r, rfl⟩
    · omega
theorem has_mono_le {n m : Nat} {x : ByteArray} (hnm : n ≤ m) (h : has (arrowB m) x = true) : has (arrowB n) x = true := by
  induction m with
  | zero => rw [show n = 0 by omega]; exact h
  | succ m ih =>
    by_cases e : n = m + 1
    · rw [e]; exact h
    · exact ih (by omega) (has_mono h)
theorem ref_arrow_loop (l : List ByteArray) (hf : Few l) (hl : l.length ≤ 10000) : ∀ (M k i n : Nat), (10001 - n) + 2 * (l.length - i) = M → M + 20100 < k → i ≤ l.length → 1 ≤ n → n ≤ 10000 → (∀ j, 1 ≤ j → j < n → l.any (has (arrowB j)) = true) → (∀ x ∈ l.take i, has (arrowB n) x = false) →
    tartanref18_Arrow.l0 k l (n : Int) (i : Int) = some (ofBs (arrowB (arrowN l))) ∧ (i < l.length → ∀ k2, M + 20099 < k2 → tartanref18_Arrow.l1 k2 l (n : Int) (i : Int) = some (ofBs (arrowB (arrowN l)))) := by
  intro M
  induction M using Nat.strongRecOn with
  | _ M ih =>
    intro k i n hM hk hi h1 h2 h3 h4
    have hl1 : i < l.length → ∀ k, M + 20099 < k → tartanref18_Arrow.l1 k l (n : Int) (i : Int) = some (ofBs (arrowB (arrowN l))) := by
      intro hlt k hk
      obtain ⟨k, rfl⟩ : ∃ q, k = q + 1 := ⟨k - 1, by omega⟩
      have hx := hf l[i] (List.getElem_mem hlt)
      rw [tartanref18_Arrow.l1, if_pos (by omega), if_pos (by omega), of_f n (by omega) k (by omega), Option.bind_some, rdOf_nat l i hlt, find_f _ _ (by omega) (by rw [size_ofBs, arrowB_length]; omega) k (by omega), Option.bind_some, toBs_ofBs]
      have hh := has_iff (arrowB n) l[i]
      by_cases h : has (arrowB n) l[i] = true
      · have hany : l.any (has (arrowB n)) = true := List.any_eq_true.2 ⟨_, List.getElem_mem hlt, h⟩
        have hle := any_le hf hany
        rw [if_pos (hh.1 h), w1 n (by omega)]
        exact (ih (M - 1) (by omega) (M + 30000) i (n + 1) (by omega) (by omega) hi (by omega) (by omega) (fun j j1 j2 => by
          by_cases e : j = n
          · rw [e]; exact hany
          · exact h3 j j1 (by omega)) (fun x hx2 => by
          cases g : has (arrowB (n + 1)) x with
          | false => rfl
          | true => have := has_mono g; rw [h4 x hx2] at this; cases this)).2 hlt k (by omega)
      · rw [if_neg (fun g => h (hh.2 g)), w1 i (by omega)]
        refine (ih (M - 2) (by omega) k (i + 1) n (by omega) (by omega) (by omega) h1 h2 h3 (fun x hx2 => ?_)).1
        rw [List.take_add_one, List.getElem?_eq_getElem hlt] at hx2
        simp only [Option.toList_some, List.mem_append, List.mem_singleton] at hx2
        rcases hx2 with hx2 | rfl
        · exact h4 x hx2
        · simpa using h
    refine ⟨?_, hl1⟩
    obtain ⟨k, rfl⟩ : ∃ q, k = q + 1 := ⟨k - 1, by omega⟩
    rw [tartanref18_Arrow.l0]
    by_cases hlt : i < l.length
    · rw [if_pos (by omega)]
      exact hl1 hlt k (by omega)
    · rw [if_neg (by omega), of_f n (by omega) k (by omega), Option.bind_some]
      have hn : arrowN l = n := by
        refine shortest_is l 20000 1 n h1 (by omega) h3 ?_
        rw [List.any_eq_false]
        intro x hx
        rw [List.take_of_length_le (by omega)] at h4
        rw [h4 x hx]; decide
      rw [hn]
theorem ref_arrow_f (l : List ByteArray) (hf : Few l) (hl : l.length ≤ 1000) (k : Nat) (hk : 40000 < k) : tartanref18_Arrow.f k l = some (ofBs (arrowB (arrowN l))) := by
  unfold tartanref18_Arrow.f
  exact (ref_arrow_loop l hf (by omega) _ k 0 1 rfl (by omega) (Nat.zero_le _) (Nat.le_refl 1) (by omega) (fun j j1 j2 => by omega) (by simp)).1
end Go.Proofs.YtggodagdfldndaaDoor.Q
