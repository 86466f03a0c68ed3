/- quote.Get walked: it hands back what the plain 'getq' says. -/
import Derived.Test.YtggodagdfldndaaB
namespace Go.Proofs.Ytggodagdfldndaa
open Go.RowKit Go.Shelf
set_option maxHeartbeats 1000000 in
set_option maxRecDepth 100000 in
theorem get_empty (s : ByteArray) (w : World) (hn : s.size = 0) :
    Calls Try.prog 31 #[.string s] w fun e w' => e = .returned (.tuple #[.string ⟨#[]⟩, .int .i64 0, .int .i64 3]) ∧ Below w.heap.size w w' := by
  have h1 : (s.toList == []) = true := by rw [(toList_eq_nil s).2 hn]; rfl
  clear hn
  go_enter Try.func31, Try.ntmps31
  go_wp2
  go_step3
  go_wp2
  rw [Exit.noGoto_ret]
  go_ret3
  exact ⟨rfl, Below.refl _ _⟩
set_option maxHeartbeats 1000000 in
set_option maxRecDepth 100000 in
theorem get_other (s : ByteArray) (w : World) (h0 : 0 < s.size) (h34 : ((s[0].toNat : Int) != 34) = true) :
    Calls Try.prog 31 #[.string s] w fun e w' => e = .returned (.tuple #[.string ⟨#[]⟩, .int .i64 0, .int .i64 3]) ∧ Below w.heap.size w w' := by
  have h1 := toList_beq_nil s h0
  go_enter Try.func31, Try.ntmps31
  go_wp2
  go_step3
  go_wp2
  rw [Exit.noGoto_ret]
  go_ret3
  exact ⟨rfl, Below.refl _ _⟩
theorem ret_getq (s : ByteArray) (a : Bs) (n e : Nat) (x y : Int) (h : getq (toBs s) = (a, n, e)) (hx : x = n) (hy : y = e) :
    Ending.returned (.tuple #[.string (ofBs a), .int .i64 x, .int .i64 y]) = .returned (.tuple #[.string (ofBs (getq (toBs s)).1), .int .i64 (getq (toBs s)).2.1, .int .i64 (getq (toBs s)).2.2]) := by
  rw [h, hx, hy]
set_option maxHeartbeats 2000000 in
set_option maxRecDepth 100000 in
theorem get_open (s : ByteArray) (w : World) (hs : s.size ≤ 1048576) (h0 : 0 < s.size) (h34 : s[0] = 34) :
    Calls Try.prog 31 #[.string s] w fun e w' => e = .returned (.tuple #[.string (ofBs (getq (toBs s)).1), .int .i64 (getq (toBs s)).2.1, .int .i64 (getq (toBs s)).2.2]) ∧ Below w.heap.size w w' := by
  have h1 := toList_beq_nil s h0
  have hx : ((s[0].toNat : Int) != 34) = false := by rw [h34]; rfl
  have H34 := Lib.hid h34
  clear h34
  have hnew := bld_new w
  go_enter Try.func31, Try.ntmps31
  go_wp2
  go_step3
  go_wp2
  go_step3
  go_wp2
  go_loopw [6, 7] (fun i n wr => ∃ (k : Nat) (acc : Bs), 1 ≤ k ∧ k ≤ s.size ∧ acc.length ≤ k ∧ i = .int .i64 k ∧ n = .int .i64 (-1) ∧ Bld w.heap.size w.heap.size acc wr ∧ Below w.heap.size w wr ∧ GetRel (toBs s) k acc) (fun i _ _ => s.size - (intOf i).toNat)
  case atStart => exact ⟨1, [], Nat.le_refl _, h0, Nat.zero_le _, rfl, rfl, hnew, (Below.refl _ _).alloc (Nat.le_refl _) _, getRel_start _⟩
  case round =>
    obtain ⟨k, acc, hk1, hk2, hk3, rfl, rfl, hb, hbel, hrel⟩ := hrel
    have hsz := hbel.size
    clear hnew hx
    by_cases hlt : k < s.size
    · by_cases hc : s[k] = 34
      · have hcx : ((s[k].toNat : Int) != 34) = false := by rw [hc]; rfl
        by_cases hd : ∃ h : k + 1 < s.size, s[k + 1] = 34
        · obtain ⟨hlt2, hd⟩ := hd
          have hr2 := getRel_twice s k acc hk1 hlt2 hc hd hrel
          have hdx : ((s[k + 1].toNat : Int) == 34) = true := by rw [hd]; rfl
          have hltx : (k : Int) + 1 < (s.size : Int) := by omega
          clear hc hd
          go_wp2_with fail
          refine (bld_writeByte _ _ acc 34 _ hb (by omega) hsz).mono ?_
          rintro e w1 ⟨rfl, hb1, hbel1, _⟩
          go_wp2
          go_roundw
          case rel => exact ⟨k + 2, acc ++ [34], by omega, by omega, by simp; omega, by go_num, rfl, hb1, hbel.trans hbel1, hr2⟩
          case measure => simp [intOf]; omega
        · have hd' : ∀ h : k + 1 < s.size, s[k + 1] ≠ 34 := fun h e => hd ⟨h, e⟩
          have hfin := getq_some s h0 H34.out acc k (getRel_end s k acc hk1 hlt hc hd' hrel)
          have Hfin := Lib.hid hfin
          by_cases hlt2 : k + 1 < s.size
          · have hdx : ((s[k + 1].toNat : Int) == 34) = false := u8_ne 34 (hd' hlt2)
            have hltx : (k : Int) + 1 < (s.size : Int) := by omega
            clear hc hd hd' hfin
            go_wp2_with fail
            refine (bld_string _ _ acc _ hb hsz).mono ?_
            rintro e w1 ⟨rfl, hb1, hbel1, _⟩
            go_wp2
            rw [Exit.noGoto_ret]
            go_ret3
            exact ⟨ret_getq s acc (k + 1) 0 _ _ Hfin.out (by omega) rfl, hbel.trans hbel1⟩
          · have hltx : ¬ (k : Int) + 1 < (s.size : Int) := by omega
            clear hc hd hd' hfin
            go_wp2_with fail
            refine (bld_string _ _ acc _ hb hsz).mono ?_
            rintro e w1 ⟨rfl, hb1, hbel1, _⟩
            go_wp2
            rw [Exit.noGoto_ret]
            go_ret3
            exact ⟨ret_getq s acc (k + 1) 0 _ _ Hfin.out (by omega) rfl, hbel.trans hbel1⟩
      · have hcx : ((s[k].toNat : Int) != 34) = true := u8_ne' 34 hc
        have hr2 := getRel_other s k acc hk1 hlt hc hrel
        clear hc
        go_wp2_with fail
        refine (bld_writeByte _ _ acc s[k] _ hb (by omega) hsz).mono ?_
        rintro e w1 ⟨rfl, hb1, hbel1, _⟩
        go_wp2
        go_roundw
        case rel => exact ⟨k + 1, acc ++ [s[k]], by omega, by omega, by simp; omega, by go_num, rfl, hb1, hbel.trans hbel1, hr2⟩
        case measure => simp [intOf]; omega
    · have Hfin := Lib.hid (getq_none s h0 H34.out (getRel_none s k acc hlt hrel))
      go_wp2
      rw [Exit.noGoto_ret]
      go_ret3
      exact ⟨ret_getq s [] 0 4 _ _ Hfin.out rfl rfl, hbel⟩

namespace Q
/-- quote.Get, as a plain function. -/
def quote_Get.f (a0 : ByteArray) : Option (ByteArray × Int × Int) :=
  if a0.size ≤ 1048576 then some (ofBs (getq (toBs a0)).1, ((getq (toBs a0)).2.1 : Int), ((getq (toBs a0)).2.2 : Int)) else none
theorem quote_Get.calls (a0 : ByteArray) (r1 : ByteArray) (r2 : Int) (r3 : Int) (w : World) (h : quote_Get.f a0 = some (r1, r2, r3)) :
    Calls Try.prog 31 #[.string a0] w fun e w' => e = .returned (.tuple #[.string r1, .int .i64 r2, .int .i64 r3]) ∧ Below w.heap.size w w' := by
  unfold quote_Get.f at h
  by_cases hs : a0.size ≤ 1048576
  · rw [if_pos hs] at h
    simp only [Option.some.injEq, Prod.mk.injEq] at h
    obtain ⟨rfl, rfl, rfl⟩ := h
    by_cases h0 : a0.size = 0
    · rw [getq_empty a0 h0]; exact get_empty a0 w h0
    · have h0' : 0 < a0.size := by omega
      by_cases h34 : a0[0] = 34
      · exact get_open a0 w hs h0' h34
      · rw [getq_other a0 h0' h34]; exact get_other a0 w h0' (u8_ne' 34 h34)
  · rw [if_neg hs] at h; cases h
end Q
end Go.Proofs.Ytggodagdfldndaa
