/- The law CsvBreaks of the given statements: for every input it answers true, and its arguments read afterwards as before: Which break ends a record makes no difference, nor whether one stands behind the last one, if that is no single empty cell. Conditions: none but those of the given statement itself. -/
import Derived.Test.YtggodagdfldndaaJCsvBreaks7
import Derived.Deep.Slices
import Derived.Test.YtggodagdfldndaaRows
import Derived.WalkKit
import Derived.ProofKit
import Derived.OpenShut
import Derived.ShutString
import Derived.ChangeOld
import Derived.Below
import Derived.SizedLaws
set_option linter.unusedVariables false
set_option linter.unusedSimpArgs false
/-! A list of lists of strings among a law's arguments: opened as the printed walks want it, and read again afterwards. -/
namespace Go.Proofs.Ytggodagdfldndaa
open Go.ChangeShapes Go.WideShapes Go.ChangeAt Go.RowKit Go.Proofs.YtggodagdfldndaaW.PrintWords
theorem underlying41 : Try.prog.underlying 41 = some (.slice 38) := by kernel_rfl
theorem cells38 : Try.prog.cellsOf 38 = 1 := by kernel_rfl
theorem weights_strs {H : Type} (P : Program) (e : TypeId) : ∀ (ss : List ByteArray), ∀ y ∈ ss, y.size ∈ DataW.weightsAll P e (strs (H := H) ss)
  | [], _, h => by cases h
  | s :: ss, y, h => by
    show y.size ∈ _ ++ _
    rcases List.mem_cons.1 h with rfl | h
    · exact List.mem_append_left _ (by simp [DataW.weights])
    · exact List.mem_append_right _ (weights_strs P e ss y h)
theorem weights_all {H : Type} (P : Program) (e : TypeId) : ∀ (ds : List (DataW H)) (d : DataW H), d ∈ ds → ∀ n ∈ d.weights P e, n ∈ DataW.weightsAll P e ds
  | [], _, h, _, _ => by cases h
  | d0 :: ds, d, h, n, hn => by
    show n ∈ _ ++ _
    rcases List.mem_cons.1 h with rfl | h
    · exact List.mem_append_left _ hn
    · exact List.mem_append_right _ (weights_all P e ds d h n hn)
theorem open_strs1 {H : Type} {enc : TypeId × Value → H} {W : World} {fuel : Nat} {v : Value} {x : DataW H × List MemPlace} (h : DataW.trod enc Try.prog W 0 (fun _ => true) true fuel 38 [v] = some x) :
    ∃ (A : Option Addr) (l : List ByteArray) (c : Nat), v = .slice A l.length c ∧ l.length ≤ c ∧ Kd.C Kd.string W A l.length l ∧ ∀ y ∈ l, y.size ∈ x.1.weights Try.prog 38 := by
  rcases open_strings underlying38 under9 cells9 h with ⟨hcs, hx⟩ | ⟨a, len, cap, ss, hcs, _, hl, hm, hz, hx, hcell, hsz⟩
  · injection hcs with hcs _
    subst hcs
    exact ⟨none, [], 0, rfl, Nat.le_refl _, Kd.C_of_reads (d := ByteArray.empty) ⟨rfl, Nat.zero_le _, fun h => by cases h⟩, by simp⟩
  · injection hcs with hcs _
    subst hcs
    have hz' : cap = ss.length ∨ len = ss.length := by
      split at hz
      · exact Or.inl hz.symm
      · exact Or.inr hz.symm
    have e : (ss.take len).length = len := by rw [List.length_take]; omega
    refine ⟨some a, ss.take len, cap, by rw [e], by rw [e]; exact hl, ?_, ?_⟩
    · rw [e]
      refine Kd.C_of_reads (d := ByteArray.empty) ⟨e, ?_, fun _ => ⟨a, rfl, fun j hj => ?_⟩⟩
      · have : maxLen ≤ 9223372036854775807 := by decide
        have h9 := Nat.le_trans hm this
        clear this hm
        exact Nat.le_trans hl h9
      · rw [hcell j (by omega)]
        have h3 : (ss.take len).getD j ByteArray.empty = ss.getD j ByteArray.empty := by
          rw [List.getD_eq_getElem?_getD, List.getD_eq_getElem?_getD, List.getElem?_take_of_lt hj]
        rw [h3]
    · intro y hy
      rw [hx]
      unfold DataW.weights
      rw [underlying38]
      exact List.mem_cons_of_mem _ (List.mem_append_left _ (weights_strs _ _ _ y hy))
theorem open_strll {H : Type} {enc : TypeId × Value → H} {W : World} {base : Nat} {v0 : Value} {d0 : DataW H} {p0 : List MemPlace} (hv : Value.okWide Try.prog W .any base 41 v0)
    (h : DataW.Trod enc Try.prog W 0 (fun _ => true) true 41 v0 d0 p0) (hw : ∀ n ∈ d0.weights Try.prog 41, n ≤ reachBytes) :
    ∃ (A : Option Addr) (l : List (List ByteArray)) (cap : Nat), v0 = .slice A l.length cap ∧ l.length ≤ cap ∧ Kd.C (Kd.slice 9 Kd.string) W A l.length l ∧ ∀ r ∈ l, ∀ x ∈ r, x.size ≤ 140737488351232 := by
  obtain ⟨a0, len, cap, rfl⟩ := okWide_slice underlying41 hv
  obtain ⟨fuel, hf⟩ := h
  rcases Go.Deep.open_slice1 underlying41 cells38 hf with ⟨hcs, hx⟩ | ⟨a, len', cap', m, n, V, D, Pl, hcs, _, hl, hm, hmm, hx, hel⟩
  · simp [Value.cells] at hcs
    obtain ⟨rfl, rfl, rfl⟩ := hcs
    exact ⟨none, [], 0, rfl, Nat.le_refl _, Kd.C_nil _ _, by simp⟩
  · simp [Value.cells] at hcs
    obtain ⟨rfl, rfl, rfl⟩ := hcs
    have hlm : len ≤ m := by
      split at hmm <;> omega
    have hex : ∀ i, ∃ p : Option Addr × List ByteArray × Nat, i < m → V i = .slice p.1 p.2.1.length p.2.2 ∧ p.2.1.length ≤ p.2.2 ∧ Kd.C Kd.string W p.1 p.2.1.length p.2.1 ∧ ∀ y ∈ p.2.1, y.size ∈ (D i).weights Try.prog 38 := by
      intro i
      by_cases hi : i < m
      · obtain ⟨A, l, c, h1, h2, h3, h4⟩ := open_strs1 (hel i hi).2
        exact ⟨(A, l, c), fun _ => ⟨h1, h2, h3, h4⟩⟩
      · exact ⟨(none, [], 0), fun h => absurd h hi⟩
    obtain ⟨F, hF⟩ := Classical.skolem.1 hex
    have e : ((List.range len).map fun i => (F i).2.1).length = len := by simp
    refine ⟨some a, (List.range len).map fun i => (F i).2.1, cap, by rw [e], by rw [e]; exact hl, ?_, ?_⟩
    · rw [e]
      refine ⟨e, ?_, fun _ => ⟨a, rfl, fun j p hj => ?_⟩⟩
      · have : maxLen ≤ 9223372036854775807 := by decide
        have h9 := Nat.le_trans hm this
        clear this hm
        exact Nat.le_trans hl h9
      · rw [List.getElem?_map] at hj
        obtain ⟨j', hj', rfl⟩ := Option.map_eq_some_iff.1 hj
        obtain ⟨hjl, he⟩ := List.getElem?_eq_some_iff.1 hj'
        rw [List.getElem_range] at he
        subst he
        rw [List.length_range] at hjl
        obtain ⟨g1, g2, g3, _⟩ := hF j (by omega)
        refine ⟨[V j], rfl, ⟨(F j).1, (F j).2.2, by rw [g1], g2, g3⟩, fun i u hu => ?_⟩
        cases i with
        | zero =>
          simp only [List.getElem?_cons_zero, Option.some.injEq] at hu
          subst hu
          show W.cell? (a.add (j * 1 + 0)) = _
          rw [Nat.mul_one, Nat.add_zero]
          exact (hel j (by omega)).1
        | succ i => simp at hu
    · intro r hr x hxr
      obtain ⟨j, hj, rfl⟩ := List.mem_map.1 hr
      rw [List.mem_range] at hj
      have h5 := (hF j (by omega)).2.2.2 x hxr
      refine hw _ ?_
      rw [(Prod.mk.inj hx).1]
      unfold DataW.weights
      rw [underlying41]
      exact List.mem_cons_of_mem _ (List.mem_append_left _ (weights_all _ _ _ _ (List.mem_map.2 ⟨j, List.mem_range.2 hj, rfl⟩) _ h5))
/-- It is read again as before, where nothing of it was written. -/
theorem again_strll {H : Type} {enc : TypeId × Value → H} {W W' : World} {v0 : Value} {d0 : DataW H} {p0 : List MemPlace} (h : DataW.Trod enc Try.prog W 0 (fun _ => true) true 41 v0 d0 p0)
    (hb : Below W.heap.size W W') (hlt : ∀ x ∈ p0, x.block < W.heap.size) : DataW.Trod enc Try.prog W' 0 (fun b => decide (b < W.heap.size)) true 41 v0 d0 p0 :=
  Below.trod laidOut (by kernel_rfl) (of_decide_eq_true (by kernel_rfl)) h hb hlt
/-- What it weighs is bounded. -/
theorem weight_le {H : Type} {P : Program} {ts : List TypeId} {ds : List (DataW H)} (h : (DataW.weightsEach P ts ds).all (· ≤ reachBytes) = true) {j : Nat} {t : TypeId} {d : DataW H} (ht : ts[j]? = some t) (hd : ds[j]? = some d) : ∀ n ∈ d.weights P t, n ≤ reachBytes := fun n hn => by
  have := List.all_eq_true.1 h _ (DataW.weights_mem_each ht hd n hn)
  simpa using this
end Go.Proofs.Ytggodagdfldndaa

namespace Go.Proofs.Ytggodagdfldndaa.csvBreaks
open Go.ChangeShapes Go.WideShapes Go.ChangeAt Go.RowKit
open Go.ChangeMaps (open_string shut_string)
set_option linter.unusedVariables false
theorem own : ownKnob Try.prog.godebug = none := by kernel_rfl
set_option maxRecDepth 100000 in
theorem lifted (os : Os) (started : os.Started) (H : Type) (enc : TypeId × Value → H) :
    ReturnsInHanded {} Try.checked os 15 .any (Rows.csvBreaksSpec.pre6 enc Try.prog Try.f15 Rows.csvBreaksRow.domain false) (Rows.csvBreaksSpec.post enc Try.prog Try.f15 false true false false) := by
  refine returnsInHanded_of_change_sized (C := Try.checked) own started (by kernel_rfl) Try.func15
    (ChangeSpec.witness6 (enc := enc) (C := Try.checked) false ⟨#[], #[.slice none 0 0, .int .u8 0, .bool false], []⟩ 8 (by kernel_rfl) (by kernel_rfl) (by kernel_rfl) (by kernel_rfl)) ?_
  intro W base args ds gs before hval0 hW hcnd hsz0 _
  have hsz : (DataW.weightsEach Try.prog (Try.f15.params.toList ++ Rows.csvBreaksSpec.plain.varTypes Try.prog) (ds ++ gs)).all (· ≤ reachBytes) = true := hsz0
  have hval : ∀ (j : Nat) t v, Try.f15.params[j]? = some t → args[j]? = some v → Value.okWide Try.prog W .any base t v := hval0
  have hW' := hW
  obtain ⟨p, q, hA0, hV, rfl, hfz, hnd⟩ := hW
  have hA : DataW.TrodAll enc Try.prog W 0 (fun _ => true) true Try.f15.params.toList args.toList ds p := hA0
  rw [Try.params15] at hA hval hsz
  obtain ⟨v0, vs0, d0, ds0, p0, q0, hargs, rfl, rfl, h0, r0⟩ := trodAll_cons hA
  obtain ⟨v1, vs1, d1, ds1, p1, q1, rfl, rfl, rfl, h1, r1⟩ := trodAll_cons r0
  obtain ⟨v2, vs2, d2, ds2, p2, q2, rfl, rfl, rfl, h2, r2⟩ := trodAll_cons r1
  obtain ⟨rfl, rfl, rfl⟩ := trodAll_nil r2
  obtain rfl : args = #[v0, v1, v2] := by cases args; simp_all
  obtain ⟨rfl, rfl⟩ := trodVars_none hV
  have g0 := h0
  obtain ⟨A0, l0, c0, rfl, hc0, hr0, z0⟩ := open_strll (hval 0 41 v0 rfl rfl) h0 (weight_le hsz (j := 0) rfl rfl)
  have hlt0 : ∀ x ∈ p0, x.block < W.heap.size := fun x hx => hW'.lt x (by simp [hx])
  obtain ⟨a1, rfl, rfl, rfl, w1⟩ := open_int Try.underlying5 (hval 1 5 v1 rfl rfl) h1
  obtain ⟨a2, rfl, rfl, rfl⟩ := open_bool Try.underlying4 (hval 2 4 v2 rfl rfl) h2
  clear hA0 hval0 hsz0 hsz
  obtain ⟨k, hk⟩ := Pure.CsvBreaks l0 a1 a2 z0 w1
  refine (Q.L.Z.tartanlaw03_CsvBreaks.calls k A0 c0 l0 a1 a2 true W hr0 hc0 hk).mono fun e W' ⟨he, bel⟩ => ?_
  subst he
  exact ⟨_, rfl, _, _, _, [], _, [], hW', trodAll_mk1 (shut_bool Try.underlying4 _), (trodAll_cons_mk (again_strll g0 bel hlt0) (trodAll_cons_mk (shut_int Try.underlying5 w1) (trodAll_cons_mk (shut_bool Try.underlying4 _) trodAll_mk0))), rfl, bel.frame _, fun h => by cases h⟩
theorem over : Rows.csvBreaksRow.holds Try.pinned (OpenSpec.ofChange Rows.csvBreaksSpec) :=
  OpenClaim.holds_of_wide 15 Try.f15 rfl rfl rfl rfl rfl rfl rfl ⟨rfl, rfl, rfl, rfl, rfl⟩ rfl rfl rfl rfl rfl (by kernel_rfl) Try.func15 (by kernel_rfl)
    (of_decide_eq_true (by kernel_rfl)) (by unfold Func.isWrapper; first | (rw [if_pos (by decide +kernel)]; kernel_rfl) | (rw [if_neg (by decide +kernel)]; exact ⟨rfl, rfl⟩))
    (fun os started H enc _ => lifted os started H enc)
theorem proved : Rows.CsvBreaksSaid := over
#print axioms proved
end Go.Proofs.Ytggodagdfldndaa.csvBreaks
namespace Go.Proofs.Ytggodagdfldndaa
/-- The row, under a short name, for the claim. -/
theorem csvBreaks_holds : Rows.CsvBreaksSaid := csvBreaks.proved
end Go.Proofs.Ytggodagdfldndaa
