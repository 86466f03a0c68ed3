/- What the printed Lean functions of chapter 2 come to, with enough rounds: fields and records. -/
import Derived.Test.YtggodagdfldndaaPL
import Derived.Test.YtggodagdfldndaaS3
import Derived.Test.YtggodagdfldndaaX3
namespace Go.Proofs.Ytggodagdfldndaa.Q.L
open Go.RowKit Go.Proofs.YtggodagdfldndaaW.PrintWords Go.Proofs.YtggodagdfldndaaW.PrintLast

/-- What lex.Field gives, in Go's numbers. -/
def outF (p : Bs × Int × Nat × Nat) : ByteArray × Int × Int × Int := (ofBs p.1, p.2.1, (p.2.2.1 : Int), (p.2.2.2 : Int))
theorem lex_Field_f (s : ByteArray) (a d : Int) (hs : s.size ≤ 1048576) : lex_Field.f s a d = some (outF (field (toBs s) a d)) := by
  unfold lex_Field.f; rw [if_pos hs]; rfl
theorem extract_ofBs (s : ByteArray) (a i : Nat) : s.extract ((a : Int)).toNat ((i : Int)).toNat = ofBs (toBs (s.extract a i)) := by
  rw [ofBs_toBs]; simp
theorem ref02_Field_l0 (s : ByteArray) (d : Int) (a : Nat) (hs : s.size ≤ 1048576) : ∀ (m k i : Nat), s.size = i + m → m + 1 < k → a ≤ i → FRel d (toBs s) a i →
    tartanref02_Field.l0 k s a d i = some (ofBs (plainF d ((toBs s).drop a)).1, ((a + (plainF d ((toBs s).drop a)).2.1 : Nat) : Int), ((plainF d ((toBs s).drop a)).2.2.1 : Int), ((plainF d ((toBs s).drop a)).2.2.2 : Int)) := by
  intro m
  induction m with
  | zero =>
    intro k i hi hk ha hr
    obtain ⟨k, rfl⟩ : ∃ q, k = q + 2 := ⟨k - 2, by omega⟩
    simp only [tartanref02_Field.l0]
    have e := endR_nil s d i (by omega)
    rw [if_pos (by omega), ref02_ends_f s i k d (by omega) (by omega), Option.bind_some, fRel_end d s a i ha (by omega) (by rw [e]; decide) hr, e]
    dsimp only
    rw [if_pos (by decide), if_pos (by omega), if_pos (by omega), extract_ofBs]
    congr 3
    omega
  | succ m ih =>
    intro k i hi hk ha hr
    obtain ⟨k, rfl⟩ : ∃ q, k = q + 2 := ⟨k - 2, by omega⟩
    have hlt : i < s.size := by omega
    simp only [tartanref02_Field.l0]
    rw [if_pos (by omega), ref02_ends_f s i k d (by omega) (by omega), Option.bind_some]
    dsimp only
    by_cases h0 : (endR ((toBs s).drop i) d).1 = 0
    · rw [if_neg (by omega), if_pos (by omega), if_pos (by omega), bt_nat s i hlt]
      obtain ⟨b1, b2⟩ := fRel_bad d s a i ha hlt h0 hr
      by_cases h34 : s[i] = 34
      · rw [if_pos (b34.2 h34), b1 h34]
        dsimp only
        congr 3; omega
      · rw [if_neg (fun h => h34 (b34.1 h))]
        by_cases h13 : s[i] = 13
        · rw [if_pos (b13.2 h13), b2 h34 h13]
          dsimp only
          congr 3; omega
        · rw [if_neg (fun h => h13 (b13.1 h)), show wrap64 ((i : Int) + 1) = ((i + 1 : Nat) : Int) from wrap_nat i 1 (by omega)]
          exact ih (k + 1) (i + 1) (by omega) (by omega) (by omega) (fRel_next d s a i ha hlt h0 h34 h13 hr)
    · rw [fRel_end d s a i ha (by omega) h0 hr, if_pos (by omega), if_pos (by omega), if_pos (by omega), extract_ofBs]
      dsimp only
      congr 3
      omega
theorem ref02_Field_f (s : ByteArray) (a d : Int) (hs : s.size ≤ 1048576) (k : Nat) (hk : s.size + 10 < k) : tartanref02_Field.f k s a d = some (outF (field (toBs s) a d)) := by
  obtain ⟨k, rfl⟩ : ∃ q, k = q + 3 := ⟨k - 3, by omega⟩
  unfold tartanref02_Field.f field
  by_cases h0 : a < 0 ∨ ((toBs s).length : Int) < a
  · rw [if_pos h0]
    rw [size_toBs] at h0
    by_cases h1 : a < 0
    · rw [if_pos h1]; simp only [tartanref02_Field.j0]; rfl
    · rw [if_neg h1, decide_eq_true (by omega)]; simp only [tartanref02_Field.j0]; rfl
  · rw [if_neg h0]
    rw [size_toBs] at h0
    obtain ⟨n, rfl⟩ := Int.eq_ofNat_of_zero_le (show 0 ≤ a by omega)
    have hn : n ≤ s.size := by omega
    rw [if_neg (by omega), decide_eq_false (by omega)]
    simp only [tartanref02_Field.j0]
    rw [if_neg (by decide), ref01_Good_f, Option.bind_some]
    cases hg : goodI d with
    | false => rw [if_neg (by decide), if_neg (by decide)]; rfl
    | true =>
      rw [if_pos rfl, if_pos rfl, Int.toNat_natCast]
      have hplain : tartanref02_Field.l0 (k + 1) s n d n = some (outF ((plainF d ((toBs s).drop n)).1, (n : Int) + (plainF d ((toBs s).drop n)).2.1, (plainF d ((toBs s).drop n)).2.2.1, (plainF d ((toBs s).drop n)).2.2.2)) :=
        ref02_Field_l0 s d n hs (s.size - n) (k + 1) n (by omega) (by omega) (Nat.le_refl _) (fRel_start d (toBs s) n)
      unfold fieldR
      by_cases hlt : n < s.size
      · have e := drop_toBs s n hlt
        rw [if_pos (by omega), if_pos (by omega), bt_nat s n hlt]
        by_cases hc : s[n] = 34
        · rw [hc, if_pos (show ((toBs s).drop n).head? = some 34 by rw [e, hc]; rfl)]
          simp only [tartanref02_Field.j1]
          rw [if_pos (by decide), if_pos (by omega), if_pos (by omega), ref01_Get_f _ (by rw [ByteArray.size_extract]; omega) _ (by rw [ByteArray.size_extract]; omega), Option.bind_some, extract_nat]
          have hn2 := getq_le ((toBs s).drop n)
          rw [List.length_drop, size_toBs] at hn2
          unfold quotedF
          dsimp only
          by_cases h0 : (getq ((toBs s).drop n)).2.2 = 0
          · rw [if_pos (by omega), if_pos h0, wrap_nat n _ (by omega), ref02_ends_f s _ k d (by omega) (by omega), Option.bind_some]
            dsimp only
            have e : List.drop (getq ((toBs s).drop n)).2.1 ((toBs s).drop n) = (toBs s).drop (n + (getq ((toBs s).drop n)).2.1) := by rw [List.drop_drop]
            rw [e]
            by_cases h1 : (endR ((toBs s).drop (n + (getq ((toBs s).drop n)).2.1)) d).1 = 0
            · rw [if_pos (by omega), if_pos h1]; rfl
            · rw [if_neg (by omega), if_neg h1]
              unfold outF
              dsimp only
              congr 3
              omega
          · rw [if_neg (by omega), if_neg h0]
            unfold outF
            dsimp only
            congr 3
        · rw [show ((s[n].toNat : Int) == 34) = false from u8_ne 34 hc, if_neg (show ¬ ((toBs s).drop n).head? = some 34 by rw [e]; simpa using hc)]
          simp only [tartanref02_Field.j1]
          rw [if_neg (by decide), hplain]
      · rw [if_neg (by omega), if_neg (show ¬ ((toBs s).drop n).head? = some 34 by rw [List.drop_eq_nil_of_le (by rw [size_toBs]; omega)]; simp)]
        simp only [tartanref02_Field.j1]
        rw [if_neg (by decide), hplain]
/-! ### records -/
theorem strOfNums_one (c : UInt8) : strOfNums ([(c.toNat : Int)] : List Int) = ofBs [c] := by
  unfold strOfNums ofBs
  simp
theorem delim_byte (d : Int) (h : (Lit.int .u8 d).wf = true) : ∃ c : UInt8, (c.toNat : Int) = d := by
  have h1 : IntKind.u8.min ≤ d ∧ d ≤ IntKind.u8.max := by simpa [Lit.wf, Lit.fits] using h
  have h2 : IntKind.u8.min = 0 := rfl
  have h3 : IntKind.u8.max = 255 := rfl
  rw [h2, h3] at h1
  refine ⟨UInt8.ofNat d.toNat, ?_⟩
  simp only [UInt8.toNat_ofNat']
  omega
/-- A record's cells, as lists of bytes. -/
def cells (l : List ByteArray) : List Bs := l.map toBs
/-- What lex.Write writes. -/
def writeB (c : UInt8) (l : List ByteArray) (crlf : Bool) : Bs := rowR (c.toNat : Int) c (cells l) ++ brk crlf
theorem put_length (l : Bs) (d : Int) : (put l d).length ≤ 2 * l.length + 2 := by
  unfold put
  split
  · omega
  · rw [quoted_length]
    have : l.count 34 ≤ l.length := List.count_le_length
    omega
theorem rowR_length (d : Int) (c : UInt8) (n : Nat) : ∀ l : List Bs, (∀ x ∈ l, x.length ≤ n) → (rowR d c l).length ≤ l.length * (2 * n + 3)
  | [], _ => by simp [rowR, Lib.join_nil]
  | [x], h => by
    rw [rowR_one]
    have := put_length x d
    have := h x (by simp)
    simp only [List.length_cons, List.length_nil]
    omega
  | x :: y :: r, h => by
    rw [rowR_cons]
    have h1 := put_length x d
    have h2 := h x (by simp)
    have h3 := rowR_length d c n (y :: r) (fun z hz => h z (by simp only [List.mem_cons] at hz ⊢; exact Or.inr hz))
    simp only [List.length_append, List.length_cons] at h3 ⊢
    have : (r.length + 1 + 1) * (2 * n + 3) = (r.length + 1) * (2 * n + 3) + (2 * n + 3) := Nat.succ_mul _ _
    omega
theorem rdOf_nat (l : List ByteArray) (i : Nat) (h : i < l.length) : rdOf ByteArray.empty l (i : Int) = l[i] := by
  unfold rdOf
  simp [h]
def Small (l : List ByteArray) (n : Nat) : Prop := ∀ x ∈ l, x.size ≤ n
theorem record_l0 (c : UInt8) (l : List ByteArray) (hl : l.length ≤ 1000000) (n : Nat) (hn : n ≤ 1048576) (hs : Small l n) : ∀ (m k i : Nat), i + m = l.length → n + m + 1 < k →
    lex_record_write.l0 k (c.toNat : Int) ((l.take i).map (fun x => ofBs (put (toBs x) c.toNat)) ++ List.replicate m (⟨#[]⟩ : ByteArray)) l (l.length : Int) i = strings_Join.f (l.map (fun x => ofBs (put (toBs x) c.toNat))) (ofBs [c]) := by
  intro m
  induction m with
  | zero =>
    intro k i hi hk
    obtain ⟨k, rfl⟩ : ∃ q, k = q + 1 := ⟨k - 1, by omega⟩
    simp only [lex_record_write.l0]
    rw [if_neg (by omega), strOfNums_one, List.take_of_length_le (by omega), List.replicate_zero, List.append_nil]
    cases strings_Join.f (l.map (fun x => ofBs (put (toBs x) c.toNat))) (ofBs [c]) <;> rfl
  | succ m ih =>
    intro k i hi hk
    obtain ⟨k, rfl⟩ : ∃ q, k = q + 1 := ⟨k - 1, by omega⟩
    have hlt : i < l.length := by omega
    have hx : l[i].size ≤ n := hs _ (List.getElem_mem hlt)
    simp only [lex_record_write.l0]
    rw [if_pos (by omega), if_pos (by omega), if_pos (by omega), rdOf_nat l i hlt, quote_Put_f _ _ (by omega) k (by omega), Option.bind_some]
    rw [if_pos (by simp; omega), show wrap64 ((i : Int) + 1) = ((i + 1 : Nat) : Int) from wrap_nat i 1 (by omega), ← ih k (i + 1) (by omega) (by omega)]
    congr 1
    rw [Int.toNat_natCast, List.set_append_right _ _ (by simp; omega)]
    have e : i - ((l.take i).map (fun x => ofBs (put (toBs x) c.toNat))).length = 0 := by simp; omega
    rw [e, List.replicate_succ, List.set_cons_zero, List.take_add_one, List.getElem?_eq_getElem hlt, List.map_append, List.append_assoc]
    rfl
theorem joined_ofBs (l : List ByteArray) (c : UInt8) : Go.Proofs.Ytggodagdfldndaa.Q.joined (l.map (fun x => ofBs (put (toBs x) c.toNat))) (ofBs [c]) = rowR (c.toNat : Int) c (cells l) := by
  unfold Go.Proofs.Ytggodagdfldndaa.Q.joined rowR cells
  simp only [List.map_map]
  congr 1
theorem lex_record_f (c : UInt8) (l : List ByteArray) (hl : l.length ≤ 1000) (hs : Small l 1000) (k : Nat) (hk : 1000 + l.length + 1 < k) : lex_record_write.f k l (c.toNat : Int) = some (ofBs (rowR (c.toNat : Int) c (cells l))) := by
  unfold lex_record_write.f
  have hlen := rowR_length (c.toNat : Int) c 1000 (cells l) (by
    intro x hx
    obtain ⟨y, hy, rfl⟩ := List.mem_map.1 hx
    rw [size_toBs]; exact hs y hy)
  have h0 := record_l0 c l (by omega) 1000 (by omega) hs l.length k 0 (by omega) (by omega)
  rw [List.take_zero, List.map_nil, List.nil_append] at h0
  rw [if_pos (by omega), if_pos (by simp; omega), Int.toNat_natCast]
  refine Eq.trans h0 ?_
  unfold strings_Join.f
  rw [joined_ofBs, if_pos]
  refine ⟨by simp; omega, ?_⟩
  simp only [cells, List.length_map] at hlen ⊢
  have := Nat.mul_le_mul_right (2 * 1000 + 3) hl
  omega
theorem writeB_bound (c : UInt8) (l : List ByteArray) (hl : l.length ≤ 1000) (hs : Small l 1000) : (rowR (c.toNat : Int) c (cells l)).length ≤ 2003000 := by
  have hlen := rowR_length (c.toNat : Int) c 1000 (cells l) (by
    intro x hx
    obtain ⟨y, hy, rfl⟩ := List.mem_map.1 hx
    rw [size_toBs]; exact hs y hy)
  simp only [cells, List.length_map] at hlen ⊢
  have := Nat.mul_le_mul_right (2 * 1000 + 3) hl
  omega
theorem lex_Write_f (c : UInt8) (l : List ByteArray) (crlf : Bool) (hl : l.length ≤ 1000) (hs : Small l 1000) (k : Nat) (hk : 1000 + l.length + 1 < k) : lex_Write.f k l (c.toNat : Int) crlf = some (ofBs (writeB c l crlf)) := by
  unfold lex_Write.f
  rw [lex_record_f c l hl hs k hk, Option.bind_some]
  have hb := writeB_bound c l hl hs
  unfold writeB
  rw [ofBs_append]
  cases crlf with
  | true => rw [if_pos rfl, if_pos (by rw [size_ofBs]; omega)]; rfl
  | false => rw [if_neg (by decide), if_pos (by rw [size_ofBs]; omega)]; rfl
/-- The cells of the rest of a record behind one that is written. -/
def tailR (d : Int) (c : UInt8) (l : List ByteArray) : Bs := Lib.joinTail [c] ((cells l).map (fun x => put x d))
theorem tailR_cons (d : Int) (c : UInt8) (x : ByteArray) (r : List ByteArray) : tailR d c (x :: r) = c :: (put (toBs x) d ++ tailR d c r) := by
  simp [tailR, cells, Lib.joinTail]
theorem rowR_tail (d : Int) (c : UInt8) (x : ByteArray) (r : List ByteArray) : rowR d c (cells (x :: r)) = put (toBs x) d ++ tailR d c r := by
  unfold rowR tailR cells
  rw [List.map_cons, List.map_cons, Lib.join_cons]
theorem ref02_Write_l0 (c : UInt8) (l : List ByteArray) (crlf : Bool) (hl : l.length ≤ 1000) (hs : Small l 1000) : ∀ (m k i : Nat) (acc : Bs), i + m = l.length → 1 ≤ i → 1000 + m + 1 < k → acc.length ≤ i * 2003 →
    tartanref02_Write.l0 k l (c.toNat : Int) crlf (ofBs acc) i = some (ofBs (acc ++ tailR c.toNat c (l.drop i) ++ brk crlf)) := by
  intro m
  induction m with
  | zero =>
    intro k i acc hi h1 hk ha
    obtain ⟨k, rfl⟩ : ∃ q, k = q + 1 := ⟨k - 1, by omega⟩
    simp only [tartanref02_Write.l0]
    have := Nat.mul_le_mul_right 2003 (show i ≤ 1000 by omega)
    rw [if_neg (by omega), List.drop_eq_nil_of_le (by omega), show tailR (c.toNat : Int) c [] = [] from rfl, List.append_nil, ofBs_append]
    cases crlf with
    | true => rw [if_pos rfl, if_pos (by rw [size_ofBs]; omega)]; rfl
    | false => rw [if_neg (by decide), if_pos (by rw [size_ofBs]; omega)]; rfl
  | succ m ih =>
    intro k i acc hi h1 hk ha
    obtain ⟨k, rfl⟩ : ∃ q, k = q + 1 := ⟨k - 1, by omega⟩
    have hlt : i < l.length := by omega
    have hx : l[i].size ≤ 1000 := hs _ (List.getElem_mem hlt)
    have hp := put_length (toBs l[i]) c.toNat
    rw [size_toBs] at hp
    have := Nat.mul_le_mul_right 2003 (show i ≤ 1000 by omega)
    simp only [tartanref02_Write.l0]
    rw [if_pos (by omega), if_pos (by omega), Option.bind_some, strOfNums_one, if_pos (by rw [size_ofBs, size_ofBs]; simp; omega), if_pos (by omega), rdOf_nat l i hlt, ref01_Put_f _ _ (by omega) k (by omega), Option.bind_some,
      ← ofBs_append, if_pos (by rw [size_ofBs, size_ofBs]; simp; omega), ← ofBs_append, show wrap64 ((i : Int) + 1) = ((i + 1 : Nat) : Int) from wrap_nat i 1 (by omega), ih k (i + 1) _ (by omega) (by omega) (by omega) (by simp; omega)]
    rw [List.drop_eq_getElem_cons hlt, tailR_cons]
    simp
theorem ref02_Write_f (c : UInt8) (l : List ByteArray) (crlf : Bool) (hl : l.length ≤ 1000) (hs : Small l 1000) (k : Nat) (hk : 1000 + l.length + 2 < k) : tartanref02_Write.f k l (c.toNat : Int) crlf = some (ofBs (writeB c l crlf)) := by
  unfold tartanref02_Write.f writeB
  obtain ⟨k, rfl⟩ : ∃ q, k = q + 1 := ⟨k - 1, by omega⟩
  simp only [tartanref02_Write.l0]
  cases l with
  | nil => cases crlf <;> rfl
  | cons x r =>
    have hx : x.size ≤ 1000 := hs x (by simp)
    have hp := put_length (toBs x) c.toNat
    rw [size_toBs] at hp
    rw [if_pos (by simp), if_neg (by omega), if_pos (by omega), show rdOf ByteArray.empty (x :: r) 0 = x from rfl, ref01_Put_f _ _ (by omega) k (by omega), Option.bind_some,
      if_pos (by rw [size_ofBs, show (⟨#[]⟩ : ByteArray).size = 0 from rfl]; omega), show (⟨#[]⟩ : ByteArray) ++ ofBs (put (toBs x) c.toNat) = ofBs (put (toBs x) c.toNat) from by rw [show (⟨#[]⟩ : ByteArray) = ofBs [] from rfl, ← ofBs_append]; rfl,
      show wrap64 ((0 : Int) + 1) = ((1 : Nat) : Int) from wrap_nat 0 1 (by omega)]
    have := ref02_Write_l0 c (x :: r) crlf hl hs r.length k 1 (put (toBs x) c.toNat) (by simp; omega) (by omega) (by simp at hk ⊢; omega) (by omega)
    rw [this, rowR_tail]; rfl
end Go.Proofs.Ytggodagdfldndaa.Q.L
