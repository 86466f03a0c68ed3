/- Few cells, as the law asks it; the four laws of chapter 18 as pure statements. -/
import Derived.Test.YtggodagdfldndaaDoorPA
import Derived.Test.YtggodagdfldndaaDoorQ3
import Derived.Test.YtggodagdfldndaaDoorQ4
import Derived.Test.YtggodagdfldndaaDoorQ5
import Derived.Test.YtggodagdfldndaaDoorQ6
namespace Go.Proofs.YtggodagdfldndaaDoor.Q
open Go.RowKit Go.Proofs.YtggodagdfldndaaDoorW.PrintWords Go.Proofs.YtggodagdfldndaaDoorW.PrintLast
theorem rd_nat (l : List (List ByteArray)) (i : Nat) (h : i < l.length) : rd_L1 l (i : Int) = l[i] := by
  unfold rd_L1
  simp [h]
/-- How many bytes cells count for. -/
def weigh : List ByteArray → Nat
  | [] => 0
  | x :: r => x.size + 1 + weigh r
def weighL : List (List ByteArray) → Nat
  | [] => 0
  | r :: l => weigh r + weighL l
/-- So few that they are looked at. -/
def FewP (l : List (List ByteArray)) : Prop := l.length ≤ 60 ∧ (∀ r ∈ l, r.length ≤ 60) ∧ weighL l ≤ 8000
def Sized (l : List (List ByteArray)) : Prop := ∀ r ∈ l, ∀ x ∈ r, x.size ≤ 140737488351232
theorem weigh_take (r : List ByteArray) (j : Nat) (h : j < r.length) : weigh (r.take (j + 1)) = weigh (r.take j) + (r[j].size + 1) := by
  induction r generalizing j with
  | nil => cases h
  | cons x r ih =>
    cases j with
    | zero => simp [weigh]
    | succ j =>
      have := ih j (by simpa using h)
      simp only [List.take_succ_cons, weigh, List.getElem_cons_succ, this]
      omega
theorem weighL_take (l : List (List ByteArray)) (i : Nat) (h : i < l.length) : weighL (l.take (i + 1)) = weighL (l.take i) + weigh l[i] := by
  induction l generalizing i with
  | nil => cases h
  | cons x r ih =>
    cases i with
    | zero => simp [weighL]
    | succ i =>
      have := ih i (by simpa using h)
      simp only [List.take_succ_cons, weighL, List.getElem_cons_succ, this]
      omega
theorem few_step (n s : Nat) (hn : n ≤ 8000) (hs : s ≤ 140737488351232) : wrap64 (wrap64 ((n : Int) + (s : Int)) + 1) = ((n + s + 1 : Nat) : Int) := by
  unfold wrap64; omega
/-- Few's two loops: true only if all that follows is few. -/
theorem few_loops (l : List (List ByteArray)) (hl : l.length ≤ 60) (hs : Sized l) : ∀ (m : Nat),
    (∀ (k i n : Nat), i + m = l.length → m * 62 + 1 < k → n = weighL (l.take i) → n ≤ 8000 → (∀ r ∈ l.take i, r.length ≤ 60) → ∃ b, tartanref03_Few.l0 k l (n : Int) (i : Int) = some b ∧ (b = true → FewP l)) := by
  intro m
  induction m with
  | zero =>
    intro k i n hi hk hn hn2 hr
    obtain ⟨k, rfl⟩ : ∃ q, k = q + 1 := ⟨k - 1, by omega⟩
    refine ⟨true, ?_, fun _ => ?_⟩
    · simp only [tartanref03_Few.l0]
      rw [if_neg (by omega)]
    · rw [List.take_of_length_le (by omega)] at hn hr
      exact ⟨hl, hr, by omega⟩
  | succ m ih =>
    intro k i n hi hk hn hn2 hr
    obtain ⟨k, rfl⟩ : ∃ q, k = q + 1 := ⟨k - 1, by omega⟩
    have h1 : i < l.length := by omega
    simp only [tartanref03_Few.l0]
    rw [if_pos (by omega), if_pos (by omega), rd_nat l i h1]
    by_cases h60 : (l[i].length : Int) > 60
    · exact ⟨false, by rw [if_pos h60], fun h => by cases h⟩
    · rw [if_neg h60]
      have inner : ∀ (m2 k2 j n2 : Nat), j + m2 = l[i].length → m * 62 + m2 + 2 < k2 → n2 = weighL (l.take i) + weigh (l[i].take j) → n2 ≤ 8000 → ∃ b, tartanref03_Few.l1 k2 l (n2 : Int) (i : Int) (j : Int) = some b ∧ (b = true → FewP l) := by
        intro m2
        induction m2 with
        | zero =>
          intro k2 j n2 hj hk2 hn3 hn4
          obtain ⟨k2, rfl⟩ : ∃ q, k2 = q + 1 := ⟨k2 - 1, by omega⟩
          simp only [tartanref03_Few.l1]
          rw [if_pos (by omega), if_pos (by omega), rd_nat l i h1, if_neg (by omega), show wrap64 ((i : Int) + 1) = ((i + 1 : Nat) : Int) from wrap_nat i 1 (by omega)]
          refine ih k2 (i + 1) n2 (by omega) (by omega) ?_ hn4 ?_
          · rw [weighL_take l i h1, hn3, show l[i].take j = l[i] from List.take_of_length_le (by omega)]
          · intro r hr2
            rw [List.take_add_one, List.getElem?_eq_getElem h1] at hr2
            simp only [Option.toList_some, List.mem_append, List.mem_singleton] at hr2
            rcases hr2 with hr2 | rfl
            · exact hr r hr2
            · omega
        | succ m2 ih2 =>
          intro k2 j n2 hj hk2 hn3 hn4
          obtain ⟨k2, rfl⟩ : ∃ q, k2 = q + 1 := ⟨k2 - 1, by omega⟩
          have h2 : j < l[i].length := by omega
          have hsz := hs l[i] (List.getElem_mem h1) l[i][j] (List.getElem_mem h2)
          simp only [tartanref03_Few.l1]
          rw [if_pos (by omega), if_pos (by omega), rd_nat l i h1, if_pos (by omega), if_pos (by omega), rdOf_nat _ j h2]
          rw [few_step n2 l[i][j].size hn4 hsz]
          by_cases h8 : ((n2 + l[i][j].size + 1 : Nat) : Int) > 8000
          · exact ⟨false, by rw [if_pos h8], fun h => by cases h⟩
          · rw [if_neg h8, show wrap64 ((j : Int) + 1) = ((j + 1 : Nat) : Int) from wrap_nat j 1 (by omega)]
            exact ih2 k2 (j + 1) _ (by omega) (by omega) (by rw [weigh_take _ j h2, hn3]; omega) (by omega)
      exact inner l[i].length k 0 n (by omega) (by omega) (by rw [hn]; simp [weigh]) hn2
theorem few_f (l : List (List ByteArray)) (hs : Sized l) (k : Nat) (hk : 4000 < k) : ∃ b, tartanref03_Few.f k l = some b ∧ (b = true → FewP l) := by
  unfold tartanref03_Few.f
  by_cases h : (l.length : Int) > 60
  · exact ⟨false, by rw [if_pos h], fun h => by cases h⟩
  · rw [if_neg h]
    exact few_loops l (by omega) hs l.length k 0 0 (by omega) (by omega) rfl (by omega) (by simp)
theorem weigh_mem (r : List ByteArray) : ∀ x ∈ r, x.size + 1 ≤ weigh r := by
  induction r with
  | nil => simp
  | cons y r ih =>
    intro x hx
    simp only [weigh]
    rcases List.mem_cons.1 hx with rfl | hx
    · omega
    · have := ih x hx; omega
/-- The law's cells. -/
def SizedC (l : List ByteArray) : Prop := ∀ x ∈ l, x.size ≤ 140737488351232
theorem few18 (l : List ByteArray) (hs : SizedC l) (k : Nat) (hk : 4000 < k) : ∃ b, tartanlaw18_few.f k l = some b ∧ (b = true → Few l ∧ (∀ x ∈ l, x.size ≤ 8000) ∧ l.length ≤ 60) := by
  obtain ⟨b, hb, hf⟩ := few_f [l] (by
    intro r hr x hx
    rw [List.mem_singleton.1 hr] at hx
    exact hs x hx) k hk
  refine ⟨b, by unfold tartanlaw18_few.f; rw [hb]; rfl, fun h => ?_⟩
  obtain ⟨_, h2, h3⟩ := hf h
  have hw : ∀ x ∈ l, x.size ≤ 8000 := by
    intro x hx
    have := weigh_mem l x hx
    simp only [weighL] at h3
    omega
  exact ⟨fun x hx => by have := hw x hx; omega, hw, h2 l (by simp)⟩
theorem ArrowSplits : tartanlaw18_ArrowSplits.Pure := by
  intro s w _ _
  refine ⟨2, ?_⟩
  unfold tartanlaw18_ArrowSplits.f
  have hno : tartanlaw18_ArrowSplits.j0 2 s w true true = some true := by rw [tartanlaw18_ArrowSplits.j0, if_pos rfl]
  rw [works18, Option.bind_some, if_pos rfl]
  by_cases h1 : (s.size : Int) > 1500
  · rw [if_pos h1]; exact hno
  · rw [if_neg h1]
    by_cases h2 : (w.size : Int) > 1500
    · rw [decide_eq_true h2]; exact hno
    · rw [decide_eq_false h2, tartanlaw18_ArrowSplits.j0, if_neg (by decide), split_f s w (by omega) (by omega), Option.bind_some]
      by_cases hi : isR (toBs w) = 0
      · rw [show splitR (toBs s) (toBs w) = ([], [], false) from if_pos hi]
        unfold outS
        dsimp only
        rw [if_neg (by decide), if_pos rfl, toList_ofBs, if_pos rfl]; rfl
      · by_cases hx : 0 ≤ Lib.index (toBs s) (toBs w)
        · have hsp : splitR (toBs s) (toBs w) = ((toBs s).take (Lib.index (toBs s) (toBs w)).toNat, (toBs s).drop ((Lib.index (toBs s) (toBs w)).toNat + (toBs w).length), true) := by
            unfold splitR; rw [if_neg hi, if_pos hx]
          have hne : toBs w ≠ [] := by
            intro e
            apply hi
            rw [e]; rfl
          obtain ⟨f1, f2⟩ : _ ∧ _ := (found hx).resolve_right hne
          obtain ⟨A, hA⟩ : ∃ A, A = (toBs s).take (Lib.index (toBs s) (toBs w)).toNat := ⟨_, rfl⟩
          obtain ⟨B, hB⟩ : ∃ B, B = (toBs s).drop ((Lib.index (toBs s) (toBs w)).toNat + (toBs w).length) := ⟨_, rfl⟩
          rw [← hA, ← hB] at f1 hsp
          rw [← hA] at f2
          have hlen := congrArg List.length f1
          rw [size_toBs, List.length_append, List.length_append, size_toBs] at hlen
          have hsp2 : splitR A (toBs w) = ([], [], false) := by
            unfold splitR; rw [if_neg hi, if_neg (by omega)]
          rw [hsp]
          unfold outS
          dsimp only
          rw [if_pos rfl, split_f _ w (by rw [size_ofBs]; omega) (by omega), Option.bind_some, toBs_ofBs, hsp2]
          unfold outS
          dsimp only
          rw [if_pos rfl, is_f w (by omega), Option.bind_some, if_pos (by omega), if_neg (by decide), join_f _ _ _ (by rw [size_ofBs, size_ofBs]; omega), Option.bind_some]
          have : ofBs A ++ w ++ ofBs B = s := by
            rw [← ofBs_toBs s, f1, ofBs_append, ofBs_append, ofBs_toBs, ByteArray.append_assoc]
          rw [this]
          simp
        · rw [show splitR (toBs s) (toBs w) = ([], [], false) from by unfold splitR; rw [if_neg hi, if_neg hx]]
          unfold outS
          dsimp only
          rw [if_neg (by decide), if_pos rfl, toList_ofBs, if_pos rfl]; rfl
theorem ArrowTells (l : List ByteArray) (s t : ByteArray) (hz : SizedC l) : ∃ k, tartanlaw18_ArrowTells.f k l s t = some true := by
  refine ⟨41001, ?_⟩
  unfold tartanlaw18_ArrowTells.f
  have hno : tartanlaw18_ArrowTells.j0 41001 l s t true true = some true := by rw [tartanlaw18_ArrowTells.j0, if_pos rfl]
  obtain ⟨b, hb, hf⟩ := few18 l hz 41001 (by omega)
  rw [works18, Option.bind_some, if_pos rfl, hb, Option.bind_some]
  cases b with
  | false => rw [if_neg (by decide)]; exact hno
  | true =>
    obtain ⟨hf, _, hl⟩ := hf rfl
    rw [if_pos rfl]
    by_cases h1 : (s.size : Int) > 1500
    · rw [if_pos h1]; exact hno
    · rw [if_neg h1]
      by_cases h2 : (t.size : Int) > 1500
      · rw [decide_eq_true h2]; exact hno
      · rw [decide_eq_false h2, tartanlaw18_ArrowTells.j0, if_neg (by decide), split_f s t (by omega) (by omega), Option.bind_some, ref_split_f s t (by omega) (by omega) 41000 (by omega), Option.bind_some, if_pos rfl, arrow_f l hf, Option.bind_some, ref_arrow_f l hf (by omega) 41000 (by omega), Option.bind_some, if_pos rfl, is_f t (by omega), Option.bind_some, ref_is_f t (by omega) 41000 (by omega), Option.bind_some, if_pos rfl, if_pos rfl, if_pos rfl]
        simp
theorem back_loop (a b : ByteArray) (l : List ByteArray) (hf : Few l) (hl : l.length ≤ 1000) (n : Nat) (hn : n ≤ 10000) (hno : ∀ x ∈ l, has (arrowB n) x = false) : ∀ (m k i : Nat), i + m = l.length → m < k → tartanlaw18_ArrowBack.l0 k a b l true (ofBs (arrowB n)) a b true (i : Int) = some true := by
  intro m
  induction m with
  | zero =>
    intro k i hi hk
    obtain ⟨k, rfl⟩ : ∃ q, k = q + 1 := ⟨k - 1, by omega⟩
    rw [tartanlaw18_ArrowBack.l0, if_neg (by omega), if_pos rfl, if_pos rfl, if_pos rfl]
    simp
  | succ m ih =>
    intro k i hi hk
    obtain ⟨k, rfl⟩ : ∃ q, k = q + 1 := ⟨k - 1, by omega⟩
    have hlt : i < l.length := by omega
    have hx := hf l[i] (List.getElem_mem hlt)
    have hh := hno l[i] (List.getElem_mem hlt)
    have hneg : ¬ 0 ≤ Lib.index (toBs l[i]) (arrowB n) := fun h => by
      rw [(has_iff _ _).2 h] at hh; cases hh
    have hsp : (splitR (toBs l[i]) (arrowB n)) = ([], [], false) := by
      unfold splitR
      rw [if_neg hneg]
      split <;> rfl
    rw [tartanlaw18_ArrowBack.l0, if_pos (by omega), if_pos (by omega), rdOf_nat l i hlt, split_f _ _ (by omega) (by rw [size_ofBs, arrowB_length]; omega), Option.bind_some, toBs_ofBs, hsp]
    unfold outS
    dsimp only
    rw [if_neg (by decide), w1 i (by omega)]
    exact ih k (i + 1) (by omega) (by omega)
theorem ArrowBack (a b : ByteArray) (l : List ByteArray) (hz : SizedC l) : ∃ k, tartanlaw18_ArrowBack.f k a b l = some true := by
  refine ⟨41002, ?_⟩
  unfold tartanlaw18_ArrowBack.f
  have hno : tartanlaw18_ArrowBack.j0 41002 a b l true true = some true := by rw [tartanlaw18_ArrowBack.j0, if_pos rfl]
  obtain ⟨q, hq, hf⟩ := few18 l hz 41002 (by omega)
  rw [works18, Option.bind_some, if_pos rfl, hq, Option.bind_some]
  cases q with
  | false => rw [if_neg (by decide)]; exact hno
  | true =>
    obtain ⟨hf, _, hl⟩ := hf rfl
    rw [if_pos rfl]
    by_cases h1 : (a.size : Int) > 1500
    · rw [if_pos h1]; exact hno
    · rw [if_neg h1]
      by_cases h2 : (b.size : Int) > 1500
      · rw [decide_eq_true h2]; exact hno
      · have hfa : Few ([a, b] ++ l) := by
          intro x hx
          simp only [List.cons_append, List.nil_append, List.mem_cons] at hx
          rcases hx with rfl | rfl | hx
          · omega
          · omega
          · exact hf x hx
        obtain ⟨n1, n2, n3, _⟩ := shortest_spec ([a, b] ++ l) hfa
        obtain ⟨n, hn⟩ : ∃ n, n = arrowN ([a, b] ++ l) := ⟨_, rfl⟩
        rw [← hn] at n1 n2 n3
        rw [List.any_eq_false] at n3
        have hna : Lib.index (toBs a) (arrowB n) < 0 := by
          have := n3 a (by simp)
          rw [has_iff] at this
          omega
        have hidx := arrow_place (toBs a) (toBs b) n hna
        have hS : toBs (a ++ ofBs (arrowB n) ++ b) = toBs a ++ (arrowB n ++ toBs b) := by rw [toBs_append, toBs_append, toBs_ofBs, List.append_assoc]
        have hsz : (a ++ ofBs (arrowB n) ++ b).size = a.size + (n + 1) + b.size := by rw [ByteArray.size_append, ByteArray.size_append, size_ofBs, arrowB_length]
        have hsp : splitR (toBs (a ++ ofBs (arrowB n) ++ b)) (arrowB n) = (toBs a, toBs b, true) := by
          unfold splitR
          rw [isR_arrow, if_neg (by omega), hS, hidx, if_pos (by omega), Int.toNat_natCast, List.take_left, ← List.drop_drop, List.drop_left, List.drop_left]
        rw [decide_eq_false h2, tartanlaw18_ArrowBack.j0, if_neg (by decide), Option.bind_some, if_pos (by simp; omega), arrow_f _ hfa, Option.bind_some, ← hn, join_f _ _ _ (by rw [size_ofBs, arrowB_length]; omega), Option.bind_some, split_f _ _ (by rw [hsz]; omega) (by rw [size_ofBs, arrowB_length]; omega), Option.bind_some, toBs_ofBs, hsp, is_f _ (by rw [size_ofBs, arrowB_length]; omega), Option.bind_some, toBs_ofBs, isR_arrow, if_neg (by omega)]
        unfold outS
        dsimp only
        rw [ofBs_toBs, ofBs_toBs]
        have e1 : (((a ++ ofBs (arrowB n) ++ b).size : Int) != wrap64 (wrap64 ((a.size : Int) + ((ofBs (arrowB n)).size : Int)) + (b.size : Int))) = false := by
          rw [hsz, size_ofBs, arrowB_length, wrap_nat a.size (n + 1) (by omega), wrap_nat (a.size + (n + 1)) b.size (by omega)]
          exact bne_self_eq_false _
        rw [e1, tartanlaw18_ArrowBack.j1, if_neg (by decide)]
        exact back_loop a b l hf (by omega) n n2 (fun x hx => by
          have := n3 x (by simp [hx])
          simpa using this) l.length 41000 0 (by omega) (by omega)
theorem short_loop (l : List ByteArray) (hf : Few l) (hl : l.length ≤ 1000) (n : Nat) (h1 : 1 ≤ n) (hn : n ≤ 10000) (v : ByteArray) (hv : n + 1 ≤ v.size) (hmin : 2 ≤ n → l.any (has (arrowB (n - 1))) = true) :
    ∀ (m k i long : Nat) (yes : Bool), i + m = l.length → m < k → 1 ≤ long → long ≤ 10000 → (∀ x ∈ l.take i, x.size ≤ long) → (2 ≤ n → yes = (l.take i).any (has (arrowB (n - 1)))) → tartanlaw18_ArrowShort.l0 k l true (ofBs (arrowB n)) v (long : Int) yes (i : Int) = some true := by
  intro m
  induction m with
  | zero =>
    intro k i long yes hi hk g1 g2 g3 g4
    obtain ⟨k, rfl⟩ : ∃ q, k = q + 1 := ⟨k - 1, by omega⟩
    rw [List.take_of_length_le (by omega)] at g3 g4
    have hsz : (ofBs (arrowB n)).size = n + 1 := by rw [size_ofBs, arrowB_length]
    have hlong : n ≤ long := by
      by_cases h2 : 2 ≤ n
      · obtain ⟨x, hx, hh⟩ := List.any_eq_true.1 (hmin h2)
        have := has_le hh
        rw [arrowB_length] at this
        have := g3 x hx
        omega
      · omega
    rw [tartanlaw18_ArrowShort.l0, if_neg (by omega), if_pos rfl, is_f _ (by omega), Option.bind_some, toBs_ofBs, isR_arrow, hsz, show wrap64 (((n + 1 : Nat) : Int) - 1) = (n : Int) from by unfold wrap64; omega, if_pos rfl, w1 long (by omega), if_pos (by omega), if_pos (by omega)]
    by_cases h2 : 2 ≤ n
    · rw [g4 h2, hmin h2, if_pos rfl]
    · cases yes with
      | true => rw [if_pos rfl]
      | false => rw [if_neg (by decide), show n = 1 by omega]; rfl
  | succ m ih =>
    intro k i long yes hi hk g1 g2 g3 g4
    obtain ⟨k, rfl⟩ : ∃ q, k = q + 1 := ⟨k - 1, by omega⟩
    have hlt : i < l.length := by omega
    have hx := hf l[i] (List.getElem_mem hlt)
    have hsz : (ofBs (arrowB n)).size = n + 1 := by rw [size_ofBs, arrowB_length]
    have hw : toBs ((ofBs (arrowB n)).extract 1 (ofBs (arrowB n)).size) = arrowB (n - 1) := by
      obtain ⟨n, rfl⟩ : ∃ q, n = q + 1 := ⟨n - 1, by omega⟩
      rw [toBs_extract, toBs_ofBs, size_ofBs, List.take_length, arrowB_succ]; rfl
    have hws : ((ofBs (arrowB n)).extract 1 (ofBs (arrowB n)).size).size = n := by
      rw [← size_toBs, hw, arrowB_length]; omega
    have hmx : mx (long : Int) (l[i].size : Int) = ((max long l[i].size : Nat) : Int) := by
      unfold mx
      split <;> omega
    have hsp : 2 ≤ n → (splitR (toBs l[i]) (arrowB (n - 1))).2.2 = has (arrowB (n - 1)) l[i] := by
      intro h2
      unfold splitR
      rw [isR_arrow, if_neg (by omega)]
      cases hh : has (arrowB (n - 1)) l[i] with
      | true => rw [if_pos ((has_iff _ _).1 hh)]
      | false => rw [if_neg (fun h => by rw [(has_iff _ _).2 h] at hh; cases hh)]
    have htake : ∀ (p : ByteArray → Bool), (l.take (i + 1)).any p = ((l.take i).any p || p l[i]) := by
      intro p
      rw [List.take_add_one, List.any_append, List.getElem?_eq_getElem hlt]; simp
    have hsizes : ∀ x ∈ l.take (i + 1), x.size ≤ max long l[i].size := by
      intro x hx2
      rw [List.take_add_one, List.getElem?_eq_getElem hlt] at hx2
      simp only [Option.toList_some, List.mem_append, List.mem_singleton] at hx2
      rcases hx2 with hx2 | rfl
      · have := g3 x hx2; omega
      · omega
    rw [tartanlaw18_ArrowShort.l0, if_pos (by omega), if_pos (by omega), if_pos (by omega), rdOf_nat l i hlt, split_f _ _ (by omega) (by omega), Option.bind_some, hw, hmx, w1 i (by omega)]
    cases yes with
    | true =>
      rw [if_pos rfl]
      refine ih k (i + 1) (max long l[i].size) true (by omega) (by omega) (by omega) (by omega) hsizes (fun h2 => ?_)
      rw [htake, ← g4 h2]; rfl
    | false =>
      rw [if_neg (by decide)]
      refine ih k (i + 1) (max long l[i].size) _ (by omega) (by omega) (by omega) (by omega) hsizes (fun h2 => ?_)
      rw [htake, ← g4 h2]
      exact hsp h2
theorem ArrowShort (l more : List ByteArray) (hz : SizedC l) (hz2 : SizedC more) : ∃ k, tartanlaw18_ArrowShort.f k l more = some true := by
  refine ⟨41002, ?_⟩
  unfold tartanlaw18_ArrowShort.f
  have hno : tartanlaw18_ArrowShort.j0 41002 l more true true = some true := by rw [tartanlaw18_ArrowShort.j0, if_pos rfl]
  obtain ⟨p, hp, hf⟩ := few18 l hz 41002 (by omega)
  obtain ⟨q, hq, hf2⟩ := few18 more hz2 41002 (by omega)
  rw [works18, Option.bind_some, if_pos rfl, hp, Option.bind_some]
  cases p with
  | false => rw [if_neg (by decide)]; exact hno
  | true =>
    obtain ⟨hf, _, hl⟩ := hf rfl
    rw [if_pos rfl, hq, Option.bind_some]
    cases q with
    | false => exact hno
    | true =>
      obtain ⟨hf2, _, hl2⟩ := hf2 rfl
      have hfm : Few (more ++ l) := by
        intro x hx
        rcases List.mem_append.1 hx with hx | hx
        · exact hf2 x hx
        · exact hf x hx
      obtain ⟨n1, n2, n3, n4⟩ := shortest_spec l hf
      obtain ⟨m1, m2, m3, _⟩ := shortest_spec (more ++ l) hfm
      obtain ⟨n, hn⟩ : ∃ n, n = arrowN l := ⟨_, rfl⟩
      obtain ⟨m, hm⟩ : ∃ m, m = arrowN (more ++ l) := ⟨_, rfl⟩
      rw [← hn] at n1 n2 n3 n4
      rw [← hm] at m1 m2 m3
      have hnm : n ≤ m := by
        rcases Nat.lt_or_ge m n with h | h
        · have h5 := n4 m m1 h
          rw [List.any_append, h5, Bool.or_true] at m3
          cases m3
        · exact h
      rw [show (!true) = false from rfl, tartanlaw18_ArrowShort.j0, if_neg (by decide), arrow_f l hf, Option.bind_some, Option.bind_some, List.nil_append, if_pos (by simp; omega), Option.bind_some, if_pos (by omega), arrow_f _ hfm, Option.bind_some, ← hn, ← hm, if_neg (by rw [size_ofBs, arrowB_length]; omega)]
      have := short_loop l hf (by omega) n n1 n2 (ofBs (arrowB m)) (by rw [size_ofBs, arrowB_length]; omega) (fun h2 => n4 (n - 1) (by omega) (by omega)) l.length 41001 0 1 false (by omega) (by omega) (by omega) (by omega) (by simp) (fun _ => rfl)
      exact this
end Go.Proofs.YtggodagdfldndaaDoor.Q
