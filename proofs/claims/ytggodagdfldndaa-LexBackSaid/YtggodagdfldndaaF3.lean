/- lex.Field walked on: a plain field: the loop over places, and over the two looks at each. -/
import Derived.Test.YtggodagdfldndaaF2
namespace Go.Proofs.Ytggodagdfldndaa.Q.L
open Go.RowKit Go.Shelf Go.Proofs.YtggodagdfldndaaW.PrintWords
/-- What the loops read: the text, the two looks. -/
structure FW (b : Nat) (s : ByteArray) (W : World) : Prop where
  cS : W.cell? ⟨b, 0, none⟩ = some (.string s)
  c1 : W.cell? ⟨b + 1, 0, none⟩ = some (.int .u8 34)
  c2 : W.cell? ⟨b + 1 + 1, 0, none⟩ = some (.int .i64 3)
  c3 : W.cell? ⟨b + 1 + 1 + 1, 0, none⟩ = some (.int .u8 13)
  c4 : W.cell? ⟨b + 1 + 1 + 1 + 1, 0, none⟩ = some (.int .i64 6)
  f0 : W.cell? ⟨b + 1 + 1 + 1 + 1 + 1, 0, none⟩ = some (.func (.func 58) #[] #[.pointer (some ⟨b, 0, none⟩), .pointer (some ⟨b + 1, 0, none⟩), .pointer (some ⟨b + 1 + 1, 0, none⟩)])
  f1 : W.cell? ⟨b + 1 + 1 + 1 + 1 + 1, 1, none⟩ = some (.func (.func 58) #[] #[.pointer (some ⟨b, 0, none⟩), .pointer (some ⟨b + 1 + 1 + 1, 0, none⟩), .pointer (some ⟨b + 1 + 1 + 1 + 1, 0, none⟩)])
theorem FW.drewN {b : Nat} {s : ByteArray} {W : World} (h : FW b s W) (n : Nat) : FW b s (W.drewN n) := ⟨h.cS, h.c1, h.c2, h.c3, h.c4, h.f0, h.f1⟩
theorem FW.start (w : World) (s : ByteArray) (n : Nat) : FW w.heap.size s ((((((w.alloc (.cells #[.string s] 9)).drewN n).alloc (.cells #[.int .u8 34] 5)).alloc (.cells #[.int .i64 3] 28)).alloc (.cells #[.int .u8 13] 5)).alloc (.cells #[.int .i64 6] 28) |>.alloc (.cells #[.func (.func 58) #[] #[.pointer (some ⟨w.heap.size, 0, none⟩), .pointer (some ⟨w.heap.size + 1, 0, none⟩), .pointer (some ⟨w.heap.size + 1 + 1, 0, none⟩)], .func (.func 58) #[] #[.pointer (some ⟨w.heap.size, 0, none⟩), .pointer (some ⟨w.heap.size + 1 + 1 + 1, 0, none⟩), .pointer (some ⟨w.heap.size + 1 + 1 + 1 + 1, 0, none⟩)]] 69)) := by
  have hn : ∀ (W : World) (o : Obj) (m : Nat), W.heap.size = m → (W.alloc o).heap[m]? = some o := fun W o m hm => by rw [← hm]; exact heap_alloc_new W o
  have ho : ∀ (W : World) (o x : Obj) (k : Nat), W.heap[k]? = some x → (W.alloc o).heap[k]? = some x := fun W o x k h => by
    rw [Lib.alloc_old W o k (Array.getElem?_eq_some_iff.1 h).1]; exact h
  have hc : ∀ (W : World) (k j : Nat) (cs : Array Value) (T : TypeId) (v : Value), W.heap[k]? = some (.cells cs T (0, 0)) → cs[j]? = some v → W.cell? ⟨k, j, none⟩ = some v := fun W k j cs T v h1 h2 => by rw [Lib.cell_of_heap h1]; exact h2
  refine ⟨hc _ _ _ _ 9 _ (ho _ _ _ _ (ho _ _ _ _ (ho _ _ _ _ (ho _ _ _ _ (ho _ _ _ _ (hn w _ _ rfl)))))) rfl,
    hc _ _ _ _ 5 _ (ho _ _ _ _ (ho _ _ _ _ (ho _ _ _ _ (ho _ _ _ _ (hn _ _ _ ?_))))) rfl,
    hc _ _ _ _ 28 _ (ho _ _ _ _ (ho _ _ _ _ (ho _ _ _ _ (hn _ _ _ ?_)))) rfl,
    hc _ _ _ _ 5 _ (ho _ _ _ _ (ho _ _ _ _ (hn _ _ _ ?_))) rfl,
    hc _ _ _ _ 28 _ (ho _ _ _ _ (hn _ _ _ ?_)) rfl,
    hc _ _ _ _ 69 _ (hn _ _ _ ?_) rfl,
    hc _ _ _ _ 69 _ (hn _ _ _ ?_) rfl⟩
  all_goals simp
theorem below_fw (w : World) (s : ByteArray) (n : Nat) {a b c d e : Obj} : Below w.heap.size w ((((((w.alloc (.cells #[.string s] 9)).drewN n).alloc a).alloc b).alloc c).alloc d |>.alloc e) :=
  (((((pw_below_drewN ((Below.refl _ w).alloc (Nat.le_refl _) _) n).alloc (by simp) _).alloc (by simp; omega) _).alloc (by simp; omega) _).alloc (by simp; omega) _).alloc (by simp; omega) _
set_option maxHeartbeats 4000000 in
set_option maxRecDepth 100000 in
theorem field_plain (s : ByteArray) (n : Nat) (d : Int) (w : World) (hn : n ≤ s.size) (hm : s.size ≤ 1048576) (hg : goodI d = true) (hq : ((toBs s).drop n).head? ≠ some 34) :
    Calls Try.prog 34 #[.string s, .int .i64 n, .int .u8 d] w (FieldPost s n d w) := by
  have hf : field (toBs s) n d = ((plainF d ((toBs s).drop n)).1, (n : Int) + (plainF d ((toBs s).drop n)).2.1, (plainF d ((toBs s).drop n)).2.2.1, (plainF d ((toBs s).drop n)).2.2.2) := by
    unfold field
    rw [if_neg (by rw [size_toBs]; omega), if_pos hg, Int.toNat_natCast]
    unfold fieldR
    rw [if_neg hq]
  have Hf := Lib.hid hf
  have Hg := Lib.hid (show quote_Good.f d = some true by rw [quote_Good_f, hg])
  have Hp := Lib.hid (show strings_HasPrefix.f (s.extract n s.size) (⟨#[34]⟩ : ByteArray) = some false by
    rw [hasPrefix_f]
    have e : toBs (s.extract n s.size) = (toBs s).drop n := Lib.extract_to_end s n
    have e2 : toBs (⟨#[34]⟩ : ByteArray) = [34] := by decide
    rw [e, e2, show (⟨#[34]⟩ : ByteArray).size = 1 from rfl, decide_eq_false]
    intro h
    cases hl : (toBs s).drop n with
    | nil => rw [hl] at h; cases h
    | cons c r => rw [hl] at h hq; simp at h; simp [h] at hq)
  clear hf hq
  have hx : decide ((n : Int) < 0) = false := decide_eq_false (by omega)
  have hx2 : decide ((s.size : Int) < n) = false := decide_eq_false (by omega)
  have b1 : (0 : Int) ≤ n := by omega
  have b2 : (n : Int) ≤ (s.size : Int) := by omega
  go_enter Try.func34, Try.ntmps34
  go_wp2
  go_step3
  go_wp2_with fail
  refine (quote_Good.calls d true _ Hg.out).mono ?_
  rintro e w' ⟨rfl, ⟨nd, rfl⟩⟩
  go_wp2_with fail
  refine (strings_HasPrefix.calls _ _ false _ Hp.out).mono ?_
  rintro e w' ⟨rfl, ⟨nd2, rfl⟩⟩
  go_wp2_with fail
  refine (wrong_make _ 34 3 _).mono ?_
  rintro e w' ⟨rfl, rfl⟩
  go_wp2_with fail
  refine (wrong_make _ 13 6 _).mono ?_
  rintro e w' ⟨rfl, rfl⟩
  go_wp2_with fail
  go_step3
  go_wp2_with fail
  go_loopw [12] (fun i wr => ∃ k : Nat, n ≤ k ∧ k ≤ s.size ∧ i = .int .i64 k ∧ FW w.heap.size s wr ∧ Below w.heap.size w wr ∧ FRel d (toBs s) n k) (fun i _ => s.size - (intOf i).toNat)
  case atStart => exact ⟨n, Nat.le_refl _, hn, rfl, FW.start w s _, below_fw w s _, fRel_start _ _ _⟩
  case round =>
    obtain ⟨k, hk1, hk2, rfl, hFW, hB, hR⟩ := hrel
    have HR := Lib.hid hR
    clear hR
    have hcS := hFW.cS
    by_cases he : (endR ((toBs s).drop k) d).1 = 0
    · have hklt : k < s.size := by
        rcases Nat.lt_or_ge k s.size with h | h
        · exact h
        · rw [endR_nil s d k h] at he; cases he
      have hend := lex_end_f s k 0 d hk2 (by omega)
      rw [he] at hend
      generalize hln : (endR ((toBs s).drop k) d).2 = ln at *
      have Hend := Lib.hid hend
      have HE := Lib.hid he
      clear hend hln he
      go_wp2_with fail
      refine (lex_end.calls 1 s k d _ _ _ Hend.out).mono ?_
      rintro e w' ⟨rfl, ⟨nd, rfl⟩⟩
      have hFW2 := hFW.drewN nd
      have hB2 := pw_below_drewN hB nd
      clear hFW hB hcS
      have hkx : (k : Int) < (s.size : Int) := by omega
      go_wp2_with fail
      obtain ⟨wo, hwo⟩ : ∃ wo : World, wo = wr := ⟨_, rfl⟩
      clear hwo
      go_loopw [67] (fun j wi => ∃ m : Nat, m ≤ 2 ∧ j = .int .i64 m ∧ FW w.heap.size s wi ∧ Below w.heap.size w wi ∧ (1 ≤ m → s[k] ≠ 34) ∧ (2 ≤ m → s[k] ≠ 13)) (fun j _ => 2 - (intOf j).toNat)
      case atStart => exact ⟨0, by omega, rfl, hFW2, hB2, by omega, by omega⟩
      case round =>
        obtain ⟨m, hm2, rfl, hFW3, hB3, hm34, hm13⟩ := hrel
        clear hFW2 hB2
        have hf0 := hFW3.f0
        have hf1 := hFW3.f1
        obtain rfl | rfl | rfl : m = 0 ∨ m = 1 ∨ m = 2 := by omega
        · by_cases hc : s[k] = 34
          · have Hfin := Lib.hid ((fRel_bad d s n k hk1 hklt HE.out HR.out).1 hc)
            have hcx : ((s[k].toNat : Int) == 34) = true := u8_eq 34 hc
            clear hc hm34 hm13
            go_wp2_with fail
            refine (look_yes s _ _ _ k 34 3 _ hklt hm hFW3.cS hFW3.c1 hFW3.c2 hcx).mono ?_
            rintro e w' ⟨rfl, ⟨q, rfl⟩⟩
            go_wp2
            rw [Exit.noGoto_ret]
            refine bodyPost_ret (results_list (rs := [.tmp 6, .tmp 7, .tmp 8, .tmp 9]) rfl (by simp) (.tmp (.tmp (.tmp (.tmp .nil))))) rfl ?_
            exact fieldPost_mk (by rw [Hf.out, Hfin.out]; rfl) (by rw [Hf.out, Hfin.out]; simp only []; omega) (by rw [Hf.out, Hfin.out]; rfl) (by rw [Hf.out, Hfin.out]; rfl) (pw_below_drewN hB3 q)
          · have hcx : ((s[k].toNat : Int) == 34) = false := u8_ne 34 hc
            have Hc := Lib.hid hc
            clear hc hm34 hm13
            go_wp2_with fail
            refine (look_no s _ _ _ k 34 3 _ hklt hm hFW3.cS hFW3.c1 hFW3.c2 hcx).mono ?_
            rintro e w' ⟨rfl, ⟨q, rfl⟩⟩
            go_wp2
            go_roundw
            case rel => exact ⟨1, by omega, rfl, hFW3.drewN q, pw_below_drewN hB3 q, fun _ => Hc.out, by omega⟩
            case measure => simp [intOf]
        · have H34 := Lib.hid (hm34 (by omega))
          clear hm34 hm13
          by_cases hc : s[k] = 13
          · have Hfin := Lib.hid ((fRel_bad d s n k hk1 hklt HE.out HR.out).2 H34.out hc)
            have hcx : ((s[k].toNat : Int) == 13) = true := u8_eq 13 hc
            clear hc
            go_wp2_with fail
            refine (look_yes s _ _ _ k 13 6 _ hklt hm hFW3.cS hFW3.c3 hFW3.c4 hcx).mono ?_
            rintro e w' ⟨rfl, ⟨q, rfl⟩⟩
            go_wp2
            rw [Exit.noGoto_ret]
            refine bodyPost_ret (results_list (rs := [.tmp 6, .tmp 7, .tmp 8, .tmp 9]) rfl (by simp) (.tmp (.tmp (.tmp (.tmp .nil))))) rfl ?_
            exact fieldPost_mk (by rw [Hf.out, Hfin.out]; rfl) (by rw [Hf.out, Hfin.out]; simp only []; omega) (by rw [Hf.out, Hfin.out]; rfl) (by rw [Hf.out, Hfin.out]; rfl) (pw_below_drewN hB3 q)
          · have hcx : ((s[k].toNat : Int) == 13) = false := u8_ne 13 hc
            have Hc := Lib.hid hc
            clear hc
            go_wp2_with fail
            refine (look_no s _ _ _ k 13 6 _ hklt hm hFW3.cS hFW3.c3 hFW3.c4 hcx).mono ?_
            rintro e w' ⟨rfl, ⟨q, rfl⟩⟩
            go_wp2
            go_roundw
            case rel => exact ⟨2, by omega, rfl, hFW3.drewN q, pw_below_drewN hB3 q, fun _ => H34.out, fun _ => Hc.out⟩
            case measure => simp [intOf]
        · have Hn := Lib.hid (fRel_next d s n k hk1 hklt HE.out (hm34 (by omega)) (hm13 (by omega)) HR.out)
          clear hm34 hm13
          go_wp2
          go_roundw
          case rel => exact ⟨k + 1, by omega, by omega, by go_num, hFW3, hB3, Hn.out⟩
          case measure => simp [intOf]; omega
    · have He := Lib.hid (fRel_end d s n k hk1 hk2 he HR.out)
      have hend := lex_end_f s k 0 d hk2 (by omega)
      generalize hkd : (endR ((toBs s).drop k) d).1 = kd at *
      generalize hln : (endR ((toBs s).drop k) d).2 = ln at *
      have Hend := Lib.hid hend
      clear hend hkd hln
      have hpos : decide ((0 : Int) < (kd : Int)) = true := by simp; omega
      go_wp2_with fail
      refine (lex_end.calls 1 s k d _ _ _ Hend.out).mono ?_
      rintro e w' ⟨rfl, ⟨nd, rfl⟩⟩
      have hcS2 := (hFW.drewN nd).cS
      have b3 : (n : Int) ≤ (k : Int) := by omega
      have b4 : (k : Int) ≤ (s.size : Int) := by omega
      go_wp2
      rw [Exit.noGoto_ret]
      refine bodyPost_ret (results_list (rs := [.tmp 6, .tmp 7, .tmp 8, .tmp 9]) rfl (by simp) (.tmp (.tmp (.tmp (.tmp .nil))))) rfl ?_
      exact fieldPost_mk (by rw [Hf.out, He.out]; exact ofBs_toBs _) (by rw [Hf.out, He.out]; simp only []; omega) (by rw [Hf.out, He.out]) (by rw [Hf.out, He.out]; rfl) (pw_below_drewN hB nd)
end Go.Proofs.Ytggodagdfldndaa.Q.L
