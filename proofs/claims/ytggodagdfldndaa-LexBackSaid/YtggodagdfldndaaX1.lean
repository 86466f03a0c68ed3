/- Contracts of Go functions of chapter 1 that are proved by hand, in the form that the printed walks take: quote.Get, quote.Quoted, strings.Count at one byte. -/
import Derived.Test.YtggodagdfldndaaG
import Derived.Test.YtggodagdfldndaaK
namespace Go.Proofs.Ytggodagdfldndaa.Q
open Go.RowKit Go.Shelf Go.Proofs.YtggodagdfldndaaW.PrintWords
/-- strings.Count at one byte. -/
def strings_Count.f (a0 a1 : ByteArray) : Option Int :=
  match toBs a1 with
  | [c] => some ((Lib.countByte (toBs a0) c : Nat) : Int)
  | _ => none
theorem strings_Count.calls (a0 a1 : ByteArray) (r : Int) (w : World) (h : strings_Count.f a0 a1 = some r) :
    Calls Try.prog 53 #[.string a0, .string a1] w fun e w' => e = .returned (.int .i64 r) ∧ Drawn0 w w' := by
  unfold strings_Count.f at h
  split at h
  · rename_i c hc
    obtain rfl := Option.some.inj h
    obtain rfl : a1 = ⟨#[c]⟩ := by rw [← ofBs_toBs a1, hc]; rfl
    refine (Try.strings_Count_one a0 c w).mono ?_
    rintro e w' ⟨rfl, rfl⟩
    exact ⟨rfl, Drawn0.refl _⟩
  · cases h
end Go.Proofs.Ytggodagdfldndaa.Q
