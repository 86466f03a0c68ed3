/- Contracts of Go's library that chapter 2 calls, in the form that the printed walks take: strings.Join. -/
import Derived.Test.YtggodagdfldndaaX1
namespace Go.Proofs.Ytggodagdfldndaa.Q
open Go.RowKit Go.Shelf Go.Proofs.YtggodagdfldndaaW.PrintWords
/-- What strings.Join gives. -/
def joined (l : List ByteArray) (sep : ByteArray) : Bs := Lib.join (l.map (fun x => x.data.toList)) sep.data.toList
def strings_Join.f (l0 : List ByteArray) (a1 : ByteArray) : Option ByteArray :=
  if l0.length ≤ 1048576 ∧ (joined l0 a1).length ≤ 140737488355328 then some (ofBs (joined l0 a1)) else none
theorem readsStr_cell {w : World} {A : Option Addr} {l : List ByteArray} (h : Kd.C Kd.string w A l.length l) (h0 : l ≠ []) :
    ∃ ad, A = some ad ∧ ∀ (j : Nat) x, l[j]? = some x → w.cell? (ad.add j) = some (.string x) := by
  have hlen : 0 < l.length := List.length_pos_iff.2 h0
  obtain ⟨ad, c, hA, _, _, _⟩ := Kd.C_get h ByteArray.empty 0 (by omega) (by omega)
  refine ⟨ad, hA, ?_⟩
  intro j x hx
  have hj : j < l.length := (List.getElem?_eq_some_iff.1 hx).1
  obtain ⟨ad2, c2, hA2, hc2, hK, hcell⟩ := Kd.C_get h ByteArray.empty (j : Int) (by omega) (by omega)
  rw [hA] at hA2
  obtain rfl := Option.some.inj hA2
  have hK' : c2 = [Value.string (l.getD ((j : Int)).toNat ByteArray.empty)] := hK
  have := hcell 0 (Value.string (l.getD ((j : Int)).toNat ByteArray.empty)) (by rw [hK']; rfl)
  simp only [Int.toNat_natCast] at this
  rw [List.getD_eq_getElem?_getD, hx] at this
  simpa [Kd.string, Kd.scalar] using this
theorem strings_Join.calls (A0 : Option Addr) (c0 : Nat) (l0 : List ByteArray) (a1 : ByteArray) (r : ByteArray) (w : World) (hr0 : Kd.C Kd.string w A0 l0.length l0) (hc0 : l0.length ≤ c0) (h : strings_Join.f l0 a1 = some r) :
    Calls Try.prog 77 #[.slice A0 l0.length c0, .string a1] w fun e w' => e = .returned (.string r) ∧ Below w.heap.size w w' := by
  unfold strings_Join.f at h
  split at h
  · rename_i hb
    obtain rfl := Option.some.inj h
    by_cases hn : l0 = []
    · subst hn
      refine (Try.strings_Join_none A0 c0 a1 w).mono ?_
      rintro e w' ⟨rfl, rfl⟩
      exact ⟨rfl, Below.refl _ _⟩
    · obtain ⟨ad, rfl, hcell⟩ := readsStr_cell hr0 hn
      have hlen : 0 < l0.length := List.length_pos_iff.2 hn
      have hc := hcell 0 l0[0] (by simp)
      obtain ⟨b, off, sp⟩ := ad
      have hh : ∃ o, w.heap[b]? = some o := by
        cases hh : w.heap[b]? with
        | none => simp [World.cell?, Addr.add, hh] at hc
        | some o => exact ⟨o, rfl⟩
      have hsp : sp = none := by
        cases sp with
        | none => rfl
        | some q =>
          exfalso
          obtain ⟨o, ho⟩ := hh
          cases o <;> simp [World.cell?, Addr.add, ho] at hc
      subst hsp
      have hlt : b < w.heap.size := by
        obtain ⟨o, ho⟩ := hh
        exact (Array.getElem?_eq_some_iff.1 ho).1
      exact Try.strings_Join b off c0 l0 a1 w (fun j x hx => by
        have := hcell j x hx
        unfold Addr.add at this
        split at this
        · rename_i hj; rw [hj]; exact this
        · exact this) hlt (by omega) hc0 hb.2
  · cases h
end Go.Proofs.Ytggodagdfldndaa.Q
