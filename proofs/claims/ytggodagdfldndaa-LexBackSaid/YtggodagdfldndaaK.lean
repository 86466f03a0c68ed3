/- quote.Quoted walked: the range over the pieces between quotes, and what is written of them: the plain 'quoted'. -/
import Derived.Test.YtggodagdfldndaaB
import Derived.RangeFuncNested
import Derived.RangeFuncBound
import Derived.RangeFuncCalls
import Derived.RangeFuncLeaves
import Derived.RangeFuncBox
import Derived.Shelf.Abstract
import Derived.Shelf.RegionOpen
import Derived.OwnWalkIn
import Derived.TacticsInMore
import Derived.LoopNIn
import Derived.LoopIn
namespace Go.Proofs.Ytggodagdfldndaa
open Go.RowKit Go.Shelf
attribute [local go_sem] Oper.semAt_some
/-- A piece. -/
abbrev Pc := { x : ByteArray // x.size ≤ 1048576 }
/-- What the iterator asks of a round: what it captured stays. -/
def KpC (a : Addr) (v : Value) (W W' : World) : Prop := W.cell? a = some v → W'.cell? a = some v
def pcs (l : List Pc) : List Bs := l.map (fun x => toBs x.1)
set_option maxHeartbeats 1000000 in
set_option maxRecDepth 100000 in
theorem pieces_make (s : ByteArray) (w : World) :
    Calls Try.prog 48 #[.string s] w fun e w' => e = .returned (.func (.func 71) #[] #[.pointer (some ⟨w.heap.size, 0, none⟩)]) ∧ w' = w.alloc (.cells #[.string s] 9) := by
  go_enter Try.func48, Try.ntmps48
  go_wp2
  go_ret
  exact ⟨rfl, rfl⟩
set_option maxHeartbeats 2000000 in
set_option maxRecDepth 100000 in
theorem pieces_stops (s : ByteArray) (hs : s.size ≤ 1048576) (b : Nat) (w : World) (hc : w.cell? ⟨b, 0, none⟩ = some (.string s)) (hb : b < w.heap.size) :
    SeqStopsK Fence.wide 11 Try.prog 71 #[.pointer (some ⟨b, 0, none⟩)] (fun x : Pc => #[.string x.1]) (KpC ⟨b, 0, none⟩ (.string s)) (fun xs => pcs xs = pieces (toBs s) []) (fun _ => True) (s.size + 1) w := fun l J Jx W hW hJ hJx hY h0 => by
  have hcW : W.cell? ⟨b, 0, none⟩ = some (.string s) := (hW.cell (p := ⟨b, 0, none⟩) hb).trans hc
  clear hc
  refine callsIn_of_wp Try.func71 rfl trivial ?_ rfl
  simp only [Try.ntmps71, List.size_toArray, List.length_cons, List.length_nil, Nat.reduceAdd, Nat.reduceSub, Array.replicate_succ, Array.replicate_zero, List.push_toArray, List.append_toArray, List.nil_append, List.cons_append]
  gi_wp2
  gi_loopw [3, 7] (fun f i wr => ∃ (pre : List Pc) (k fr : Nat), k ≤ s.size ∧ fr ≤ k ∧ pre.length ≤ fr ∧ f = .int .i64 fr ∧ i = .int .i64 k ∧ PcRel (toBs s) (pcs pre) k fr ∧ J pre wr ∧ wr.cell? ⟨b, 0, none⟩ = some (.string s)) (fun _ i _ => s.size - (intOf i).toNat)
  case atStart =>
    exact ⟨[], 0, 0, Nat.zero_le _, Nat.le_refl _, Nat.le_refl _, rfl, rfl, pcRel_start _, h0, hcW⟩
  case round =>
    obtain ⟨pre, k, fr, hk, hf, hp, rfl, rfl, hr, hj, hcr⟩ := hrel
    by_cases hlt : k < s.size
    · by_cases hq : s[k] = 34
      · have hqx : ((s[k].toNat : Int) == 34) = true := u8_eq 34 hq
        have hr2 := pcRel_quote s _ k fr hlt hf hq hr
        clear hq
        obtain ⟨fn, tmps, assign, body, hy, hR⟩ := hY pre ⟨s.extract fr (k + 1), by rw [ByteArray.size_extract]; omega⟩ wr hj (by omega)
        dsimp only at hy
        have b1 : (0 : Int) ≤ fr := by omega
        have b2 : (fr : Int) ≤ (k : Int) + 1 := by omega
        have b3 : (k : Int) + 1 ≤ (s.size : Int) := by omega
        gi_wp2
        refine hR.mono ?_
        rintro e W' (⟨rfl, hJ', hk'⟩ | ⟨rfl, hx'⟩)
        · have hc' := hk' hcr
          gi_wp2
          go_roundw
          case rel => exact ⟨pre ++ [⟨s.extract fr (k + 1), by rw [ByteArray.size_extract]; omega⟩], k + 1, k + 1, by omega, Nat.le_refl _, by simp; omega, by go_num, by go_num, by simpa [pcs] using hr2, hJ', hc'⟩
          case measure => simp [intOf]; omega
        · gi_wp2
          refine bodyPost_ret (results_none rfl _ _ _) rfl ?_
          exact ⟨⟨_, rfl⟩, .inr ⟨_, trivial, hx'⟩⟩
      · have hqx : ((s[k].toNat : Int) == 34) = false := u8_ne 34 hq
        have hr2 := pcRel_other s _ k fr hlt hf hq hr
        clear hq
        gi_wp2
        go_roundw
        case rel => exact ⟨pre, k + 1, fr, by omega, by omega, hp, rfl, by go_num, hr2, hj, hcr⟩
        case measure => simp [intOf]; omega
    · have hfin := pcRel_end s _ k fr hlt hf hr
      obtain ⟨fn, tmps, assign, body, hy, hR⟩ := hY pre ⟨s.extract fr s.size, by rw [ByteArray.size_extract]; omega⟩ wr hj (by omega)
      dsimp only at hy
      gi_wp2
      refine hR.mono ?_
      rintro e W' (⟨rfl, hJ', hk'⟩ | ⟨rfl, hx'⟩)
      · gi_wp2
        go_end0
        exact ⟨⟨_, rfl⟩, .inl ⟨_, by simpa [pcs] using hfin, hJ'⟩⟩
      · gi_wp2
        go_end0
        exact ⟨⟨_, rfl⟩, .inr ⟨_, trivial, hx'⟩⟩

theorem othersKept_keeps {b : Nat} {W W' : World} (h : Lib.OthersKept 5 (some b) W W') (hs : W.heap.size ≤ W'.heap.size) (hb : ∃ cs T fz, W.heap[b]? = some (.cells cs T fz)) : KeepsOthers W W' := by
  refine ⟨hs, fun k o hk ho => h k o hk ?_ ?_⟩
  · intro e
    obtain ⟨cs, T, fz, hc⟩ := hb
    rw [← Option.some.inj e, hk] at hc
    rw [Option.some.inj hc] at ho; cases ho
  · intro c fz e; rw [e] at ho; cases ho
theorem Bld.block {B b : Nat} {l : Bs} {w : World} (h : Bld B b l w) : ∃ cs T fz, w.heap[b]? = some (.cells cs T fz) := by
  rcases h with ⟨_, v, hb, _⟩ | ⟨_, v, hb, _⟩ <;> exact ⟨_, _, _, hb⟩
theorem Bld.kept {B b : Nat} {l : Bs} {W W' : World} {row : Option Nat} (h : Bld B b l W) (hg : W.grownBy W' row) (hr : ∀ r, row = some r → ∃ o : Obj, W.heap[r]? = some o ∧ o.isCells = false) : Bld B b l W' := by
  have key : ∀ p, Lib.BuilderAtF 56 5 B b p (Lib.byteCells l) W → Lib.BuilderAtF 56 5 B b p (Lib.byteCells l) W' := by
    intro p ⟨hB, v, hb, hown, hne⟩
    refine ⟨hB, v, (grownBy_keeps_cells hg hr hb rfl).trans hb, ⟨by have := hg.size; have := hown.1; omega, ?_⟩, hne⟩
    rcases hown.2 with h1 | ⟨g, cap, cur, fz, hv, hbg, hgg, rest⟩
    · exact .inl h1
    · exact .inr ⟨g, cap, cur, fz, hv, hbg, (grownBy_keeps_cells hg hr hgg rfl).trans hgg, rest⟩
  rcases h with h | h
  · exact .inl (key _ h)
  · exact .inr (key _ h)

theorem Bld.alloc {B b : Nat} {l : Bs} {w : World} (h : Bld B b l w) (o : Obj) : Bld B b l (w.alloc o) := h.kept (World.grownBy_alloc w o none) (fun r e => by cases e)
theorem othersKept_block {b k : Nat} {W W' : World} {cs : Array Value} {T : TypeId} {fz : Nat × Nat} (h : Lib.OthersKept 5 (some b) W W') (hc : W.heap[k]? = some (.cells cs T fz)) (hT : T ≠ 5) (hb : k ≠ b) : W'.heap[k]? = some (.cells cs T fz) :=
  h k _ hc (fun e => hb (Option.some.inj e)) (fun c z e => by injection e with _ e2 _; exact hT e2)
set_option maxRecDepth 100000 in
set_option maxHeartbeats 2000000 in
theorem quoted_walk (s : ByteArray) (w : World) (hs : s.size ≤ 1048576) :
    Calls Try.prog 24 #[.string s] w fun e w' => e = .returned (.string (ofBs (quoted (toBs s)))) ∧ Below w.heap.size w w' := by
  refine (callsIn_wide (n := 12)).1 ?_
  refine callsIn_of_wp_marks Try.func24 rfl trivial ?_ rfl
  simp only [Try.ntmps24, List.size_toArray, List.length_cons, List.length_nil, Nat.reduceAdd, Nat.reduceSub, Array.replicate_succ, Array.replicate_zero, List.push_toArray, List.append_toArray, List.nil_append, List.cons_append]
  have hnew := bld_new w
  gi_wp2_with (refine ⟨trivial, ?_⟩; gi_at_call 48; refine (callsIn_wide.2 (pieces_make _ _)).mono ?_; rintro e w' ⟨rfl, rfl⟩)
  have hB0 : Below w.heap.size w ((w.alloc (.cells #[.pointer none, .slice none 0 0] 56)).alloc (.cells #[.string s] 9)) := ((Below.refl _ w).alloc (Nat.le_refl _) _).alloc (by simp) _
  have hcs : ((w.alloc (.cells #[.pointer none, .slice none 0 0] 56)).alloc (.cells #[.string s] 9)).heap[w.heap.size + 1]? = some (.cells #[.string s] 9 (0, 0)) := by
    have := heap_alloc_new (w.alloc (.cells #[.pointer none, .slice none 0 0] 56)) (.cells #[.string s] 9)
    rwa [World.size_alloc] at this
  refine wpIn_rangeFunc_ownF rfl (by omega) (gf := 71) (lb := #[.pointer (some ⟨w.heap.size + 1, 0, none⟩)]) rfl trivial (enters_of Try.func71 (by kernel_rfl) rfl)
    (pieces_stops s hs (w.heap.size + 1) _ (by rw [Lib.cell_of_heap hcs]; rfl) (by simp)) (fun h k hv => k (h hv)) ?kb (Below.refl _ _) (fun _ => rfl)
    (fun pre W => (Bld w.heap.size w.heap.size (accs (pcs pre)) W ∧ W.heap[w.heap.size + 1]? = some (.cells #[.string s] 9 (0, 0)) ∧ pre.length ≤ s.size + 1) ∧ Below w.heap.size w W)
    (fun _ _ _ => False)
    (OwnFrom.and (Own.from (fun t A B row ht hg hr => ⟨ht.1.kept hg hr, (grownBy_keeps_cells hg hr ht.2.1 rfl).trans ht.2.1, ht.2.2⟩) _) (ownFrom_below (Nat.le_refl _) (by simp; omega)))
    (fun _ _ _ _ _ ht _ _ => ht)
    ⟨⟨?bld0, hcs, Nat.zero_le _⟩, hB0⟩
    (fun x => { tmps := #[.string s, undef, .string ⟨#[]⟩, .pointer (some ⟨w.heap.size, 0, none⟩), .string x.1, .string s, .func (.func 71) #[] #[.pointer (some ⟨w.heap.size + 1, 0, none⟩)], .string x.1, undef, undef, undef, undef, undef], defers := [] }) ?assign ?body ?done ?stop
  case kb =>
    intro W l o o' hl hW ho _ hv
    exact cell_kept hv (grownBy_putObj' W l o') (fun r e => by cases e; exact ⟨o, hW, ho⟩)
  case bld0 => exact Bld.alloc hnew _
  case assign =>
    intro l x W K hK
    gi_wp2
    exact hK
  case body =>
    rintro l pre x W ⟨⟨hbd, hcW, hlen⟩, hB⟩ hN
    have hsz := hB.size
    have hx := x.2
    have hlen2 : (accs (pcs pre)).length ≤ 1099513724929 := by
      have h1 := accs_length_le 1048576 (pcs pre) (fun p hp => by obtain ⟨y, _, rfl⟩ := List.mem_map.1 hp; rw [size_toBs]; exact y.2)
      have h2 : (pcs pre).length ≤ 1048577 := by rw [pcs, List.length_map]; omega
      have h3 : (pcs pre).length * (1048576 + 1) ≤ 1048577 * (1048576 + 1) := Nat.mul_le_mul_right _ h2
      omega
    gi_wp2_with (refine ⟨trivial, ?_⟩; gi_at_call 49; refine (CallsIn.inRound l (callsIn_wide.2 (bld_writeByte _ _ _ 34 _ hbd (by omega) hsz))).mono ?_; rintro e W1 ⟨rfl, hb1, hbel1, hk1⟩)
    have hsz1 := hbel1.size
    have hc1 := othersKept_block hk1 hcW (by decide) (by omega)
    have hko1 := othersKept_keeps hk1 hsz1 hbd.block
    refine ⟨trivial, (CallsIn.inRound l (callsIn_wide.2 (bld_writeString _ _ _ x.1 _ hb1 (by simp; omega) (by omega)))).mono ?_⟩
    rintro e W2 ⟨rfl, hb2, hbel2, hk2⟩
    have hsz2 := hbel2.size
    have hc2 := othersKept_block hk2 hc1 (by decide) (by omega)
    have hko2 := othersKept_keeps hk2 hsz2 hb1.block
    gi_wp2
    refine ⟨hko1.trans hko2, fun _ => (by rw [Lib.cell_of_heap hc2]; rfl), ⟨?_, hc2, ?_⟩, (hB.trans hbel1).trans hbel2⟩
    · simp only [pcs, List.map_append, List.map_cons, List.map_nil]
      rw [accs_snoc]
      exact hb2
    · simp; omega
  case done =>
    rintro D ys W hD hS ⟨⟨hbd, hcW, hlen⟩, hB⟩ hK
    have hsz := hB.size
    have hacc : accs (pcs ys) = 34 :: twice (toBs s) := by rw [hS, accs_pieces]; simp
    have htw := twice_length_le (toBs s)
    rw [size_toBs] at htw
    rw [hacc] at hbd
    gi_wp2_with (refine ⟨trivial, ?_⟩; gi_at_call 49; refine (callsIn_wide.2 (bld_writeByte _ _ _ 34 _ hbd (by simp; omega) hsz)).mono ?_; rintro e W1 ⟨rfl, hb1, hbel1, hk1⟩)
    have hsz1 := hbel1.size
    refine ⟨trivial, (callsIn_wide.2 (bld_string _ _ _ _ hb1 (by omega))).mono ?_⟩
    rintro e W2 ⟨rfl, hb2, hbel2, hk2⟩
    have hK2 := (othersKept_keeps hk2 hbel2.size hb1.block).same D _ ((othersKept_keeps hk1 hsz1 hbd.block).same D _ hK rfl) rfl
    gi_wp2
    refine ⟨by simp, .inl ⟨_, _, rfl, run_takeDeferred hK2, ?_⟩⟩
    refine ⟨_, results_tmp rfl _ _ _, rfl, ?_⟩
    exact ((hB.trans hbel1).trans hbel2).trans (belowK_b (w := w) (Nat.le_refl _) W2 D _ _ (by simp at hD; omega) hK2 rfl rfl)
  case stop =>
    rintro D c pre W _ _ h _
    exact h.elim

namespace Q
/-- quote.Quoted, as a plain function. -/
def quote_Quoted.f (a0 : ByteArray) : Option ByteArray := if a0.size ≤ 1048576 then some (ofBs (quoted (toBs a0))) else none
theorem quote_Quoted.calls (a0 : ByteArray) (r : ByteArray) (w : World) (h : quote_Quoted.f a0 = some r) :
    Calls Try.prog 24 #[.string a0] w fun e w' => e = .returned (.string r) ∧ Below w.heap.size w w' := by
  unfold quote_Quoted.f at h
  by_cases hs : a0.size ≤ 1048576
  · rw [if_pos hs] at h
    obtain rfl := Option.some.inj h
    exact quoted_walk a0 w hs
  · rw [if_neg hs] at h; cases h
end Q
end Go.Proofs.Ytggodagdfldndaa
