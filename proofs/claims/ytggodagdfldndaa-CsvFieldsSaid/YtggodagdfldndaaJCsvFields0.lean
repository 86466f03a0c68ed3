/- Walks of Go functions of this seat against plain Lean functions, written by a program of this session (the kit's print, with hand-proved contracts for what it does not take). Lean checks them. -/
import Derived.Shelf.Strings.Builder1
import Derived.Shelf.Strings.Builder2
import Derived.Shelf.Strings.OnBuilder
import Derived.Shelf.Strings.BuilderF
import Derived.Shelf.Strings.BuilderK
import Derived.Shelf.Strings.Builder2Cap
import Derived.Shelf.Strings.Search1
import Derived.Shelf.Strings.Search2
import Derived.Shelf.Strings.Search3
import Derived.Shelf.Strings.Count
import Derived.Shelf.LaysM
import Derived.Shelf.Strings.Shaped
import Derived.Shelf.Strings.Prefix
import Derived.Shelf.Strings.Split
import Derived.Shelf.Strings.BuilderCap
import Derived.Shelf.Slices.Equal
import Derived.Shelf.Slices.Empties2
import Derived.Test.YtggodagdfldndaaProg
import Derived.Lib.Strings
import Derived.Lib.IndexBytes
import Derived.Test.YtggodagdfldndaaWWords
import Derived.WalkKit
import Derived.LoopTactic
import Derived.Deep.LoopGhost
import Derived.Outline
import Derived.WalkMore
import Derived.Lib.Hide
import Derived.RangeFuncNested
import Derived.RangeFuncBound
import Derived.RangeFuncCalls
import Derived.RangeFuncLeaves
import Derived.RangeFuncBox
import Derived.Shelf.Abstract
import Derived.Shelf.RegionOpen
import Derived.OwnWalkIn
import Derived.TacticsInMore
import Derived.LoopNIn
import Derived.LoopIn
import Derived.RangeFuncFrom
import Derived.Lib.Join
import Derived.Below
import Derived.Deep.Draws
import Derived.Deep.AppendLies
import Derived.Maps.AppendAt
import Derived.OwnWalk
import Derived.Laws.BytesArg
import Derived.Laws.MakeOwn
import Derived.Laws.OwnMore
import Derived.Deep.OwnRows
import Derived.Tactics
import Derived.Lib.ConvBytes
import Derived.Laws.Slices
import Derived.KernelRfl
import Derived.RowKit3
import Derived.Deep.QuietTactic
import Derived.BigQuiet
import Derived.WideLaws
import Derived.Deep.DeepCutAuto
import Derived.Deep.CutBlock
import Derived.Deep.RegionHeld3
import Derived.Laws.Rows
import Derived.Lib.AppendStr
import Derived.ArgAppend
import Derived.Laws.IdiomCopy
import Derived.OrdersHeld
import Derived.Laws.BitsLemmas
import Derived.RowKit
import Derived.Test.YtggodagdfldndaaWLast
import Derived.Test.YtggodagdfldndaaWTab
import Derived.Test.YtggodagdfldndaaWFour
import Derived.Test.YtggodagdfldndaaWQPut
import Derived.Test.YtggodagdfldndaaWApart
import Derived.Test.YtggodagdfldndaaWArr
import Derived.Test.YtggodagdfldndaaWZeros
import Derived.Test.YtggodagdfldndaaWFoot
import Derived.Test.YtggodagdfldndaaWKept
import Derived.Test.YtggodagdfldndaaWShare
import Derived.Test.YtggodagdfldndaaWN
import Derived.Test.YtggodagdfldndaaWFootNe
import Derived.Test.YtggodagdfldndaaWAt
import Derived.Test.YtggodagdfldndaaWEqStruct
import Derived.Test.YtggodagdfldndaaWRepsOne
import Derived.Test.YtggodagdfldndaaWInv
import Derived.Test.YtggodagdfldndaaWInvWords
import Derived.Test.YtggodagdfldndaaWGuard
import Derived.Test.YtggodagdfldndaaWNEv
import Derived.Test.YtggodagdfldndaaWMore
set_option linter.unusedVariables false
set_option linter.unusedSimpArgs false
/-! The kit's contracts of Go's library at this program's numbers: each is one application of a theorem of the kit (strings.Builder, strings.Count at one byte, strings.Join, slices.Equal at strings); the layings are the kernel's comparison of the bodies. -/
namespace Go.Proofs
open Go.Shelf
def Try.lays156_ren : Go.Shelf.Ren := ⟨fun | 156 => 77 | 165 => 86 | 166 => 50 | 169 => 51 | 240 => 72 | 241 => 92 | 276 => 84 | 277 => 95 | n => n, fun | 31 => 38 | 9 => 9 | 3 => 3 | 4 => 4 | 0 => 0 | 20 => 20 | 72 => 56 | 76 => 63 | 70 => 53 | 37 => 54 | 75 => 61 | 127 => 91 | 164 => 98 | 5 => 5 | 80 => 65 | n => n, fun | n => n⟩
theorem Try.lays156 : Go.Proofs.Lays.n156 Try.prog Try.lays156_ren := {
  mixed := by kernel_rfl
  f156 := Try.func77.trans (congrArg some (by kernel_rfl))
  f165 := Try.func86.trans (congrArg some (by kernel_rfl))
  f166 := Try.func50.trans (congrArg some (by kernel_rfl))
  f169 := Try.func51.trans (congrArg some (by kernel_rfl))
  f240 := Try.func72.trans (congrArg some (by kernel_rfl))
  f241 := Try.func92.trans (congrArg some (by kernel_rfl))
  f276 := Try.func84.trans (congrArg some (by kernel_rfl))
  f277 := Try.func95.trans (congrArg some (by kernel_rfl))
  t0 := Try.underlying0
  a0 := Try.isAgg0
  z0 := Try.sizeOf0
  v0 := Try.zeroValue0
  t3 := Try.underlying3
  a3 := Try.isAgg3
  z3 := Try.sizeOf3
  v3 := Try.zeroValue3
  t4 := Try.underlying4
  a4 := Try.isAgg4
  z4 := Try.sizeOf4
  v4 := Try.zeroValue4
  t9 := Try.underlying9
  a9 := Try.isAgg9
  z9 := Try.sizeOf9
  v9 := Try.zeroValue9
  t20 := Try.underlying20
  a20 := Try.isAgg20
  z20 := Try.sizeOf20
  v20 := Try.zeroValue20
  t31 := Try.underlying38
  a31 := Try.isAgg38
  z31 := Try.sizeOf38
  v31 := Try.zeroValue38
  t37 := Try.underlying54
  a37 := Try.isAgg54
  z37 := Try.sizeOf54
  v37 := Try.zeroValue54
  t70 := Try.underlying53
  a70 := Try.isAgg53
  z70 := Try.sizeOf53
  v70 := Try.zeroValue53
  t72 := Try.underlying56
  a72 := Try.isAgg56
  z72 := Try.sizeOf56
  v72 := Try.zeroValue56
  t75 := Try.underlying61
  a75 := Try.isAgg61
  z75 := Try.sizeOf61
  v75 := Try.zeroValue61
  t76 := Try.underlying63
  a76 := Try.isAgg63
  z76 := Try.sizeOf63
  v76 := Try.zeroValue63
  t127 := Try.underlying91
  a127 := Try.isAgg91
  z127 := Try.sizeOf91
  v127 := Try.zeroValue91
  t164 := Try.underlying98
  a164 := Try.isAgg98
  z164 := Try.sizeOf98
  v164 := Try.zeroValue98 }
theorem Try.Builder_Extra_156 : Builder.Extra Try.prog Try.lays156_ren := {
  sizeBuilder := by kernel_rfl
  liesBuilder := by kernel_rfl
  t5 := Try.underlying5
  a5 := Try.isAgg5
  z5 := Try.sizeOf5
  v5 := Try.zeroValue5
  infoByte := by kernel_rfl
  cellsByte := by kernel_rfl
  sizeByte := by kernel_rfl
  neB5 := by decide }
open Go.RowKit in
/-- No element: the empty string; the world is as it was. (Whatever the slice's address and capacity: a nil slice too.) (LAID: no walk: one application.) -/
theorem Try.strings_Join_none (a : Option Addr) (c : Nat) (sep : ByteArray) (w : World) :
    Calls Try.prog 77 #[.slice a 0 c, .string sep] w fun e w' => e = .returned (.string ⟨#[]⟩) ∧ w' = w := Any.strings_Join_none Try.lays156 Try.Builder_Extra_156 a c sep w
open Go.RowKit in
/-- strings.Join: "Join concatenates the elements of its first argument to create a single string. The separator string sep is placed between elements in the resulting string.": HOWEVER MANY ELEMENTS. Below the heap's end the world is as it was. (LAID: no walk: one application.) -/
theorem Try.strings_Join (bk o c : Nat) (xs : List ByteArray) (sep : ByteArray) (w : World) (hcells : ∀ (j : Nat) x, xs[j]? = some x → w.cell? ⟨bk, o + j, none⟩ = some (.string x)) (hbk : bk < w.heap.size) (hN : xs.length ≤ 140737488355328) (hcap : xs.length ≤ c) (hlen : (Lib.join (xs.map (·.data.toList)) sep.data.toList).length ≤ 140737488355328) :
    Calls Try.prog 77 #[.slice (some ⟨bk, o, none⟩) xs.length c, .string sep] w fun e w' => e = .returned (.string ⟨(Lib.join (xs.map (·.data.toList)) sep.data.toList).toArray⟩) ∧ Below w.heap.size w w' := Any.strings_Join Try.lays156 Try.Builder_Extra_156 bk o c xs sep w hcells hbk hN hcap hlen
def Try.lays138_ren : Go.Shelf.Ren := ⟨fun | 138 => 53 | 195 => 73 | 218 => 74 | 143 => 75 | 219 => 85 | 217 => 88 | 225 => 89 | 224 => 90 | 267 => 91 | 266 => 93 | 314 => 94 | n => n, fun | 9 => 9 | 3 => 3 | 4 => 4 | 5 => 5 | 0 => 0 | 46 => 103 | 146 => 105 | 51 => 104 | n => n, fun | 1 => 0 | n => n⟩
theorem Try.lays138 : Go.Proofs.Lays.n138 Try.prog Try.lays138_ren := {
  mixed := by kernel_rfl
  f138 := Try.func53.trans (congrArg some (by kernel_rfl))
  f143 := Try.func75.trans (congrArg some (by kernel_rfl))
  f195 := Try.func73.trans (congrArg some (by kernel_rfl))
  f217 := Try.func88.trans (congrArg some (by kernel_rfl))
  f218 := Try.func74.trans (congrArg some (by kernel_rfl))
  f219 := Try.func85.trans (congrArg some (by kernel_rfl))
  f224 := Try.func90.trans (congrArg some (by kernel_rfl))
  f225 := Try.func89.trans (congrArg some (by kernel_rfl))
  f266 := Try.func93.trans (congrArg some (by kernel_rfl))
  f267 := Try.func91.trans (congrArg some (by kernel_rfl))
  f314 := Try.func94.trans (congrArg some (by kernel_rfl))
  t0 := Try.underlying0
  a0 := Try.isAgg0
  z0 := Try.sizeOf0
  v0 := Try.zeroValue0
  t3 := Try.underlying3
  a3 := Try.isAgg3
  z3 := Try.sizeOf3
  v3 := Try.zeroValue3
  t4 := Try.underlying4
  a4 := Try.isAgg4
  z4 := Try.sizeOf4
  v4 := Try.zeroValue4
  t5 := Try.underlying5
  a5 := Try.isAgg5
  z5 := Try.sizeOf5
  v5 := Try.zeroValue5
  t9 := Try.underlying9
  a9 := Try.isAgg9
  z9 := Try.sizeOf9
  v9 := Try.zeroValue9
  t46 := Try.underlying103
  a46 := Try.isAgg103
  z46 := Try.sizeOf103
  v46 := Try.zeroValue103
  t51 := Try.underlying104
  a51 := Try.isAgg104
  z51 := Try.sizeOf104
  v51 := Try.zeroValue104
  t146 := Try.underlying105
  a146 := Try.isAgg105
  z146 := Try.sizeOf105
  v146 := Try.zeroValue105
  g1 := by kernel_rfl }
open Go.RowKit Go.Lib in
/-- strings.Count AT A substr OF ONE BYTE ('hp'): "Count counts the number of non-overlapping instances of substr in s.": IT RETURNS 'Lib.countByte s (that byte)'; the world is as it was. ✋ NO CONTRACT HERE YET at an empty substr (utf8.RuneCountInString) or at a longer one (a loop over strings.Index). (LAID: no walk: one application.) -/
theorem Try.strings_Count_one (s : ByteArray) (c : UInt8) (w : World) :
    Calls Try.prog 53 #[.string s, .string ⟨#[c]⟩] w fun e w' => e = .returned (.int .i64 (Lib.countByte s.data.toList c)) ∧ w' = w := Any.strings_Count_one Try.lays138 s c w
open Go.RowKit Go.Lib in
def Try.lays99_ren : Go.Shelf.Ren := ⟨fun | 99 => 55 | 206 => 76 | n => n, fun | 9 => 9 | 4 => 4 | 3 => 3 | n => n, fun | n => n⟩
theorem Try.lays99 : Go.Proofs.Lays.n99 Try.prog Try.lays99_ren := {
  mixed := by kernel_rfl
  f99 := Try.func55.trans (congrArg some (by kernel_rfl))
  f206 := Try.func76.trans (congrArg some (by kernel_rfl))
  t3 := Try.underlying3
  a3 := Try.isAgg3
  z3 := Try.sizeOf3
  v3 := Try.zeroValue3
  t4 := Try.underlying4
  a4 := Try.isAgg4
  z4 := Try.sizeOf4
  v4 := Try.zeroValue4
  t9 := Try.underlying9
  a9 := Try.isAgg9
  z9 := Try.sizeOf9
  v9 := Try.zeroValue9 }
open Go.RowKit Go.Lib in
/-- strings.HasPrefix: "HasPrefix reports whether the string s begins with prefix.": IT RETURNS 'Lib.hasPrefix s prefix'; the world is as it was. (LAID: no walk: one application.) -/
theorem Try.strings_HasPrefix (s p : ByteArray) (w : World) :
    Calls Try.prog 55 #[.string s, .string p] w fun e w' => e = .returned (.bool (Lib.hasPrefix s.data.toList p.data.toList)) ∧ w' = w := Any.strings_HasPrefix Try.lays99 s p w
open Go.RowKit Go.Lib in
def Try.lays193_ren : Go.Shelf.Ren := ⟨fun | 193 => 70 | n => n, fun | 31 => 38 | 9 => 9 | 4 => 4 | 3 => 3 | 0 => 0 | n => n, fun | n => n⟩
theorem Try.lays193 : Go.Proofs.Lays.n193 Try.prog Try.lays193_ren := {
  mixed := by kernel_rfl
  f193 := Try.func70.trans (congrArg some (by kernel_rfl))
  t0 := Try.underlying0
  a0 := Try.isAgg0
  z0 := Try.sizeOf0
  v0 := Try.zeroValue0
  t3 := Try.underlying3
  a3 := Try.isAgg3
  z3 := Try.sizeOf3
  v3 := Try.zeroValue3
  t4 := Try.underlying4
  a4 := Try.isAgg4
  z4 := Try.sizeOf4
  v4 := Try.zeroValue4
  t9 := Try.underlying9
  a9 := Try.isAgg9
  z9 := Try.sizeOf9
  v9 := Try.zeroValue9
  t31 := Try.underlying38
  a31 := Try.isAgg38
  z31 := Try.sizeOf38
  v31 := Try.zeroValue38 }
open Go.RowKit Go.Lib in
/-- slices.Equal at []string: "Equal reports whether two slices are equal: the same length and all elements equal. If the lengths are different, Equal returns false. Otherwise, the elements are compared in increasing index order, and the comparison stops at the first unequal pair. Empty and nil slices are considered equal.": IT RETURNS WHETHER THE TWO LISTS OF ELEMENTS ARE ONE; the world is as it was but for the count of draws (the test 's1[i] != s2[i]' has two reads, whose order the model draws, once a round). 'xs', 'ys': what the cells behind the two addresses hold (the spare capacity too, if you have it); 'xs.take n', 'ys.take m': the elements. THE TWO SLICES MAY OVERLAP. (LAID: no walk: one application.) -/
theorem Try.slices_Equal_string (b1 o1 n c b2 o2 m d : Nat) (xs ys : List ByteArray) (w : World) (hx : n ≤ xs.length) (hy : m ≤ ys.length) (hbig : n ≤ 9223372036854775807) (hbig2 : m ≤ 9223372036854775807) (hc1 : ∀ j, j < xs.length → w.cell? ⟨b1, o1 + j, none⟩ = some (.string (xs.getD j ByteArray.empty))) (hc2 : ∀ j, j < ys.length → w.cell? ⟨b2, o2 + j, none⟩ = some (.string (ys.getD j ByteArray.empty))) :
    Calls Try.prog 70 #[.slice (some ⟨b1, o1, none⟩) n c, .slice (some ⟨b2, o2, none⟩) m d] w fun e w' => e = .returned (.bool (decide (xs.take n = ys.take m))) ∧ ∃ q, w' = w.drewN q := Any.slices_Equal_string Try.lays193 b1 o1 n c b2 o2 m d xs ys w hx hy hbig hbig2 hc1 hc2
open Go.RowKit Go.Lib in
/-- The same where the first is of length 0 (a nil one too): no cell is asked for. (LAID: no walk: one application.) -/
theorem Try.slices_Equal_string_empty (a1 a2 : Option Addr) (c m d : Nat) (w : World) (hbig2 : m ≤ 9223372036854775807) :
    Calls Try.prog 70 #[.slice a1 0 c, .slice a2 m d] w fun e w' => e = .returned (.bool (decide (m = 0))) ∧ w' = w := Any.slices_Equal_string_empty Try.lays193 a1 a2 c m d w hbig2
open Go.RowKit Go.Lib in
theorem Try.slices_Equal_string_lens (a1 a2 : Option Addr) (n c m d : Nat) (w : World) (hnm : n ≠ m) :
    Calls Try.prog 70 #[.slice a1 n c, .slice a2 m d] w fun e w' => e = .returned (.bool false) ∧ w' = w := Any.slices_Equal_string_lens Try.lays193 a1 a2 n c m d w hnm
def Try.bld_ren : Go.Shelf.Ren := ⟨fun | 166 => 50 | 167 => 49 | 169 => 51 | 170 => 68 | 240 => 72 | 276 => 84 | n => n, fun | 0 => 0 | 3 => 3 | 4 => 4 | 5 => 5 | 9 => 9 | 20 => 20 | 37 => 54 | 70 => 53 | 72 => 56 | 75 => 61 | 76 => 63 | 80 => 65 | 127 => 91 | 164 => 98 | n => n, fun | n => n⟩
theorem Try.bld240 : Go.Proofs.Lays.n240 Try.prog Try.bld_ren := {
  mixed := by kernel_rfl
  f240 := Try.func72.trans (congrArg some (by kernel_rfl))
  f276 := Try.func84.trans (congrArg some (by kernel_rfl))
  t0 := Try.underlying0
  a0 := Try.isAgg0
  z0 := Try.sizeOf0
  v0 := Try.zeroValue0
  t4 := Try.underlying4
  a4 := Try.isAgg4
  z4 := Try.sizeOf4
  v4 := Try.zeroValue4
  t9 := Try.underlying9
  a9 := Try.isAgg9
  z9 := Try.sizeOf9
  v9 := Try.zeroValue9
  t20 := Try.underlying20
  a20 := Try.isAgg20
  z20 := Try.sizeOf20
  v20 := Try.zeroValue20
  t70 := Try.underlying53
  a70 := Try.isAgg53
  z70 := Try.sizeOf53
  v70 := Try.zeroValue53
  t72 := Try.underlying56
  a72 := Try.isAgg56
  z72 := Try.sizeOf56
  v72 := Try.zeroValue56
  t164 := Try.underlying98
  a164 := Try.isAgg98
  z164 := Try.sizeOf98
  v164 := Try.zeroValue98 }
theorem Try.bld166 : Go.Proofs.Lays.n166 Try.prog Try.bld_ren := {
  mixed := by kernel_rfl
  f166 := Try.func50.trans (congrArg some (by kernel_rfl))
  f240 := Try.func72.trans (congrArg some (by kernel_rfl))
  f276 := Try.func84.trans (congrArg some (by kernel_rfl))
  t0 := Try.underlying0
  a0 := Try.isAgg0
  z0 := Try.sizeOf0
  v0 := Try.zeroValue0
  t3 := Try.underlying3
  a3 := Try.isAgg3
  z3 := Try.sizeOf3
  v3 := Try.zeroValue3
  t4 := Try.underlying4
  a4 := Try.isAgg4
  z4 := Try.sizeOf4
  v4 := Try.zeroValue4
  t9 := Try.underlying9
  a9 := Try.isAgg9
  z9 := Try.sizeOf9
  v9 := Try.zeroValue9
  t20 := Try.underlying20
  a20 := Try.isAgg20
  z20 := Try.sizeOf20
  v20 := Try.zeroValue20
  t37 := Try.underlying54
  a37 := Try.isAgg54
  z37 := Try.sizeOf54
  v37 := Try.zeroValue54
  t70 := Try.underlying53
  a70 := Try.isAgg53
  z70 := Try.sizeOf53
  v70 := Try.zeroValue53
  t72 := Try.underlying56
  a72 := Try.isAgg56
  z72 := Try.sizeOf56
  v72 := Try.zeroValue56
  t75 := Try.underlying61
  a75 := Try.isAgg61
  z75 := Try.sizeOf61
  v75 := Try.zeroValue61
  t164 := Try.underlying98
  a164 := Try.isAgg98
  z164 := Try.sizeOf98
  v164 := Try.zeroValue98 }
theorem Try.bld167 : Go.Proofs.Lays.n167 Try.prog Try.bld_ren := {
  mixed := by kernel_rfl
  f167 := Try.func49.trans (congrArg some (by kernel_rfl))
  f240 := Try.func72.trans (congrArg some (by kernel_rfl))
  f276 := Try.func84.trans (congrArg some (by kernel_rfl))
  t0 := Try.underlying0
  a0 := Try.isAgg0
  z0 := Try.sizeOf0
  v0 := Try.zeroValue0
  t4 := Try.underlying4
  a4 := Try.isAgg4
  z4 := Try.sizeOf4
  v4 := Try.zeroValue4
  t5 := Try.underlying5
  a5 := Try.isAgg5
  z5 := Try.sizeOf5
  v5 := Try.zeroValue5
  t9 := Try.underlying9
  a9 := Try.isAgg9
  z9 := Try.sizeOf9
  v9 := Try.zeroValue9
  t20 := Try.underlying20
  a20 := Try.isAgg20
  z20 := Try.sizeOf20
  v20 := Try.zeroValue20
  t37 := Try.underlying54
  a37 := Try.isAgg54
  z37 := Try.sizeOf54
  v37 := Try.zeroValue54
  t70 := Try.underlying53
  a70 := Try.isAgg53
  z70 := Try.sizeOf53
  v70 := Try.zeroValue53
  t72 := Try.underlying56
  a72 := Try.isAgg56
  z72 := Try.sizeOf56
  v72 := Try.zeroValue56
  t75 := Try.underlying61
  a75 := Try.isAgg61
  z75 := Try.sizeOf61
  v75 := Try.zeroValue61
  t164 := Try.underlying98
  a164 := Try.isAgg98
  z164 := Try.sizeOf98
  v164 := Try.zeroValue98 }
theorem Try.bld169 : Go.Proofs.Lays.n169 Try.prog Try.bld_ren := {
  mixed := by kernel_rfl
  f169 := Try.func51.trans (congrArg some (by kernel_rfl))
  t0 := Try.underlying0
  a0 := Try.isAgg0
  z0 := Try.sizeOf0
  v0 := Try.zeroValue0
  t3 := Try.underlying3
  a3 := Try.isAgg3
  z3 := Try.sizeOf3
  v3 := Try.zeroValue3
  t9 := Try.underlying9
  a9 := Try.isAgg9
  z9 := Try.sizeOf9
  v9 := Try.zeroValue9
  t37 := Try.underlying54
  a37 := Try.isAgg54
  z37 := Try.sizeOf54
  v37 := Try.zeroValue54
  t70 := Try.underlying53
  a70 := Try.isAgg53
  z70 := Try.sizeOf53
  v70 := Try.zeroValue53
  t72 := Try.underlying56
  a72 := Try.isAgg56
  z72 := Try.sizeOf56
  v72 := Try.zeroValue56
  t127 := Try.underlying91
  a127 := Try.isAgg91
  z127 := Try.sizeOf91
  v127 := Try.zeroValue91 }
theorem Try.bld170 : Go.Proofs.Lays.n170 Try.prog Try.bld_ren := {
  mixed := by kernel_rfl
  f170 := Try.func68.trans (congrArg some (by kernel_rfl))
  t0 := Try.underlying0
  a0 := Try.isAgg0
  z0 := Try.sizeOf0
  v0 := Try.zeroValue0
  t3 := Try.underlying3
  a3 := Try.isAgg3
  z3 := Try.sizeOf3
  v3 := Try.zeroValue3
  t37 := Try.underlying54
  a37 := Try.isAgg54
  z37 := Try.sizeOf54
  v37 := Try.zeroValue54
  t70 := Try.underlying53
  a70 := Try.isAgg53
  z70 := Try.sizeOf53
  v70 := Try.zeroValue53
  t72 := Try.underlying56
  a72 := Try.isAgg56
  z72 := Try.sizeOf56
  v72 := Try.zeroValue56 }
theorem Try.bldX : Builder.Extra Try.prog Try.bld_ren := {
  sizeBuilder := by kernel_rfl
  liesBuilder := by kernel_rfl
  t5 := Try.underlying5
  a5 := Try.isAgg5
  z5 := Try.sizeOf5
  v5 := Try.zeroValue5
  infoByte := by kernel_rfl
  cellsByte := by kernel_rfl
  sizeByte := by kernel_rfl
  neB5 := by decide }
end Go.Proofs

/-! Plain functions on lists of bytes: what quoted cells are, and what is got out of them. No Go in it. -/
namespace Go.Proofs.Ytggodagdfldndaa
abbrev Bs := List UInt8
/-- Bytes as a string. -/
def ofBs (l : Bs) : ByteArray := ⟨l.toArray⟩
/-- A string's bytes. -/
def toBs (s : ByteArray) : Bs := s.data.toList
theorem toBs_ofBs (l : Bs) : toBs (ofBs l) = l := by simp [toBs, ofBs]
theorem ofBs_toBs (s : ByteArray) : ofBs (toBs s) = s := by simp [toBs, ofBs]
theorem size_toBs (s : ByteArray) : (toBs s).length = s.size := rfl
theorem ofBs_inj {a b : Bs} (h : ofBs a = ofBs b) : a = b := by have := congrArg toBs h; rwa [toBs_ofBs, toBs_ofBs] at this
theorem size_ofBs (l : Bs) : (ofBs l).size = l.length := by rw [← size_toBs, toBs_ofBs]

/-- With each quote twice. -/
def twice : Bs → Bs
  | [] => []
  | c :: r => if c = 34 then 34 :: 34 :: twice r else c :: twice r
def quoted (s : Bs) : Bs := 34 :: (twice s ++ [34])
/-- What stands up to the last quote that belongs to it, and how many bytes were looked at. -/
def scan : Bs → Option (Bs × Nat)
  | [] => none
  | [c] => if c = 34 then some ([], 1) else none
  | c :: d :: r => if c = 34 then (if d = 34 then (scan r).map (fun p => (34 :: p.1, p.2 + 2)) else some ([], 1)) else (scan (d :: r)).map (fun p => (c :: p.1, p.2 + 1))
/-- What stands in quotes, how many bytes it was written with, and the error. -/
def getq : Bs → Bs × Nat × Nat
  | [] => ([], 0, 3)
  | c :: r => if c = 34 then (match scan r with | none => ([], 0, 4) | some p => (p.1, p.2 + 1, 0)) else ([], 0, 3)

theorem twice_append (a b : Bs) : twice (a ++ b) = twice a ++ twice b := by
  induction a with
  | nil => rfl
  | cons c r ih => simp only [List.cons_append, twice]; split <;> simp [ih]
theorem twice_length_le (s : Bs) : (twice s).length ≤ 2 * s.length := by
  induction s with
  | nil => simp [twice]
  | cons c r ih => simp only [twice]; split <;> simp <;> omega
theorem le_twice_length (s : Bs) : s.length ≤ (twice s).length := by
  induction s with
  | nil => simp [twice]
  | cons c r ih => simp only [twice]; split <;> simp <;> omega

/-! ### one step of the scan -/
theorem scan_other {c : UInt8} (r : Bs) (h : c ≠ 34) : scan (c :: r) = (scan r).map (fun p => (c :: p.1, p.2 + 1)) := by
  cases r with
  | nil => simp [scan, h]
  | cons d r => simp [scan, h]
theorem scan_twice (r : Bs) : scan (34 :: 34 :: r) = (scan r).map (fun p => (34 :: p.1, p.2 + 2)) := by simp [scan]
theorem scan_end_nil : scan [34] = some ([], 1) := by simp [scan]
theorem scan_end {d : UInt8} (r : Bs) (h : d ≠ 34) : scan (34 :: d :: r) = some ([], 1) := by simp [scan, h]

theorem drop_toBs (s : ByteArray) (k : Nat) (h : k < s.size) : (toBs s).drop k = s[k] :: (toBs s).drop (k + 1) := by
  have h' : k < (toBs s).length := h
  rw [List.drop_eq_getElem_cons h']; rfl
theorem toList_eq_nil (s : ByteArray) : s.toList = [] ↔ s.size = 0 := by
  rw [Lib.toList_data]
  constructor
  · intro h; rw [← size_toBs, toBs, h]; rfl
  · intro h; rw [← size_toBs] at h; exact List.length_eq_zero_iff.1 h
theorem toList_beq_nil (s : ByteArray) (h : 0 < s.size) : (s.toList == []) = false := by
  rw [beq_eq_false_iff_ne]; intro e; have := (toList_eq_nil s).1 e; omega

/-- What has been got when k bytes have been looked at. -/
def GetRel (l : Bs) (k : Nat) (acc : Bs) : Prop := scan (l.drop 1) = (scan (l.drop k)).map (fun p => (acc ++ p.1, p.2 + (k - 1)))
theorem getRel_start (l : Bs) : GetRel l 1 [] := by
  unfold GetRel; cases scan (l.drop 1) <;> simp
theorem getRel_other (s : ByteArray) (k : Nat) (acc : Bs) (h1 : 1 ≤ k) (h : k < s.size) (hc : s[k] ≠ 34) (hr : GetRel (toBs s) k acc) : GetRel (toBs s) (k + 1) (acc ++ [s[k]]) := by
  unfold GetRel at *
  rw [hr, drop_toBs s k h, scan_other _ hc]
  cases scan ((toBs s).drop (k + 1)) <;> simp; omega
theorem getRel_twice (s : ByteArray) (k : Nat) (acc : Bs) (h1 : 1 ≤ k) (h : k + 1 < s.size) (hc : s[k] = 34) (hd : s[k + 1] = 34) (hr : GetRel (toBs s) k acc) : GetRel (toBs s) (k + 2) (acc ++ [34]) := by
  unfold GetRel at *
  rw [hr, drop_toBs s k (by omega), drop_toBs s (k + 1) h, hc, hd, scan_twice]
  cases scan ((toBs s).drop (k + 1 + 1)) <;> simp; omega
theorem getRel_end (s : ByteArray) (k : Nat) (acc : Bs) (h1 : 1 ≤ k) (h : k < s.size) (hc : s[k] = 34) (hd : ∀ h : k + 1 < s.size, s[k + 1] ≠ 34) (hr : GetRel (toBs s) k acc) : scan ((toBs s).drop 1) = some (acc, k) := by
  unfold GetRel at *
  rw [hr, drop_toBs s k h, hc]
  by_cases h2 : k + 1 < s.size
  · rw [drop_toBs s (k + 1) h2, scan_end _ (hd h2)]; simp; omega
  · rw [List.drop_eq_nil_of_le (by rw [size_toBs]; omega), scan_end_nil]; simp; omega
theorem getRel_none (s : ByteArray) (k : Nat) (acc : Bs) (h : ¬ k < s.size) (hr : GetRel (toBs s) k acc) : scan ((toBs s).drop 1) = none := by
  unfold GetRel at *
  rw [hr, List.drop_eq_nil_of_le (by rw [size_toBs]; omega)]; rfl
theorem getq_some (s : ByteArray) (h : 0 < s.size) (hc : s[0] = 34) (acc : Bs) (k : Nat) (hr : scan ((toBs s).drop 1) = some (acc, k)) : getq (toBs s) = (acc, k + 1, 0) := by
  have e := drop_toBs s 0 h
  rw [List.drop_zero] at e
  rw [e, getq, if_pos hc, hr]
theorem getq_none (s : ByteArray) (h : 0 < s.size) (hc : s[0] = 34) (hr : scan ((toBs s).drop 1) = none) : getq (toBs s) = ([], 0, 4) := by
  have e := drop_toBs s 0 h
  rw [List.drop_zero] at e
  rw [e, getq, if_pos hc, hr]
theorem getq_other (s : ByteArray) (h : 0 < s.size) (hc : s[0] ≠ 34) : getq (toBs s) = ([], 0, 3) := by
  have e := drop_toBs s 0 h
  rw [List.drop_zero] at e
  rw [e, getq, if_neg hc]
theorem getq_empty (s : ByteArray) (h : s.size = 0) : getq (toBs s) = ([], 0, 3) := by
  rw [List.length_eq_zero_iff.1 (by rw [size_toBs]; exact h : (toBs s).length = 0)]; rfl
theorem u8_eq {c : UInt8} (d : UInt8) (h : c = d) : ((c.toNat : Int) == (d.toNat : Int)) = true := by rw [h]; simp
theorem u8_ne {c : UInt8} (d : UInt8) (h : c ≠ d) : ((c.toNat : Int) == (d.toNat : Int)) = false := by
  rw [beq_eq_false_iff_ne]; intro e; exact h (UInt8.toNat_inj.1 (by omega))
theorem u8_eq' {c : UInt8} (d : UInt8) (h : c = d) : ((c.toNat : Int) != (d.toNat : Int)) = false := by rw [bne, u8_eq d h]; rfl
theorem u8_ne' {c : UInt8} (d : UInt8) (h : c ≠ d) : ((c.toNat : Int) != (d.toNat : Int)) = true := by rw [bne, u8_ne d h]; rfl

/-! ### what stands between quotes, each piece but the last one with the quote behind it -/
def pieces : Bs → Bs → List Bs
  | [], cur => [cur]
  | c :: r, cur => if c = 34 then (cur ++ [34]) :: pieces r [] else pieces r (cur ++ [c])
def accs : List Bs → Bs
  | [] => []
  | p :: r => 34 :: (p ++ accs r)
theorem accs_append (a b : List Bs) : accs (a ++ b) = accs a ++ accs b := by
  induction a with
  | nil => rfl
  | cons p r ih => simp [accs, ih]
theorem accs_snoc (a : List Bs) (p : Bs) : accs (a ++ [p]) = accs a ++ [34] ++ p := by rw [accs_append]; simp [accs]
theorem accs_pieces (l cur : Bs) : accs (pieces l cur) = 34 :: (cur ++ twice l) := by
  induction l generalizing cur with
  | nil => simp [pieces, accs, twice]
  | cons c r ih =>
    simp only [pieces, twice]
    by_cases h : c = 34
    · simp [h, accs, ih]
    · simp [h, ih]
theorem accs_length_le (M : Nat) : ∀ l : List Bs, (∀ p ∈ l, p.length ≤ M) → (accs l).length ≤ l.length * (M + 1)
  | [], _ => by simp [accs]
  | p :: r, h => by
    have h1 := h p (by simp)
    have h2 := accs_length_le M r (fun q hq => h q (by simp [hq]))
    simp only [accs, List.length_cons, List.length_append, Nat.add_mul]
    omega
/-- At i bytes looked at, 'from' of them told. -/
def PcRel (l : Bs) (pre : List Bs) (i fr : Nat) : Prop := pieces l [] = pre ++ pieces (l.drop i) ((l.take i).drop fr)
theorem toBs_extract (s : ByteArray) (a b : Nat) : toBs (s.extract a b) = ((toBs s).take b).drop a := by rw [List.drop_take]; exact Lib.extract_data s a b
theorem pcRel_start (l : Bs) : PcRel l [] 0 0 := by simp [PcRel]
theorem take_drop_snoc (s : ByteArray) (i fr : Nat) (h : i < s.size) (hf : fr ≤ i) : ((toBs s).take (i + 1)).drop fr = ((toBs s).take i).drop fr ++ [s[i]] := by
  have h' : i < (toBs s).length := h
  rw [List.take_succ_eq_append_getElem h', List.drop_append_of_le_length (by rw [List.length_take]; omega)]; rfl
theorem pcRel_other (s : ByteArray) (pre : List Bs) (i fr : Nat) (h : i < s.size) (hf : fr ≤ i) (hc : s[i] ≠ 34) (hr : PcRel (toBs s) pre i fr) : PcRel (toBs s) pre (i + 1) fr := by
  unfold PcRel at *
  rw [hr, drop_toBs s i h, pieces, if_neg hc, take_drop_snoc s i fr h hf]
theorem pcRel_quote (s : ByteArray) (pre : List Bs) (i fr : Nat) (h : i < s.size) (hf : fr ≤ i) (hc : s[i] = 34) (hr : PcRel (toBs s) pre i fr) :
    PcRel (toBs s) (pre ++ [toBs (s.extract fr (i + 1))]) (i + 1) (i + 1) := by
  unfold PcRel at *
  have e : toBs (s.extract fr (i + 1)) = ((toBs s).take i).drop fr ++ [34] := by
    rw [← hc, ← take_drop_snoc s i fr h hf, toBs_extract]
  rw [hr, drop_toBs s i h, pieces, if_pos hc, e]
  simp
theorem pcRel_end (s : ByteArray) (pre : List Bs) (i fr : Nat) (h : ¬ i < s.size) (hf : fr ≤ i) (hr : PcRel (toBs s) pre i fr) :
    pre ++ [toBs (s.extract fr s.size)] = pieces (toBs s) [] := by
  unfold PcRel at *
  have e : toBs (s.extract fr s.size) = ((toBs s).take i).drop fr := by
    rw [List.take_of_length_le (by rw [size_toBs]; omega)]; exact Lib.extract_to_end s fr
  rw [hr, List.drop_eq_nil_of_le (by rw [size_toBs]; omega), pieces, e]
end Go.Proofs.Ytggodagdfldndaa

/-! Contracts of strings.Builder's methods at this program, and of quote.Get: what stands in quotes, as the plain 'getq' says. -/
namespace Go.Proofs.Ytggodagdfldndaa
open Go.RowKit Go.Shelf

/-- A builder of the call's own, in block b, holding the bytes l. -/
def Bld (B b : Nat) (l : Bs) (w : World) : Prop := Lib.IsBuilderF 56 5 B b (Lib.byteCells l) w

theorem bld_writeByte (B b : Nat) (l : Bs) (c : UInt8) (w : World) (h : Bld B b l w) (hlen : l.length + 1 ≤ 140737488355328) (hBw : B ≤ w.heap.size) :
    Calls Try.prog 49 #[.pointer (some ⟨b, 0, none⟩), .int .u8 c.toNat] w fun e w' => e = .returned .nilIface ∧ (Bld B b (l ++ [c]) w' ∧ Below B w w' ∧ Lib.OthersKept 5 (some b) w w') := by
  refine (Any.Builder_WriteByte_k Try.bld167 Try.bldX B b (Lib.byteCells l) c.toNat w h (by simpa [Lib.byteCells_length] using hlen) hBw).mono ?_
  rintro e w' ⟨he, h1, h2, h3⟩
  exact ⟨he, by unfold Bld; rw [show Lib.byteCells (l ++ [c]) = Lib.byteCells l ++ [.int .u8 c.toNat] from by simp [Lib.byteCells]]; exact Or.inr h1, h2, h3⟩

theorem bld_writeString (B b : Nat) (l : Bs) (s : ByteArray) (w : World) (h : Bld B b l w) (hlen : l.length + s.size ≤ 140737488355328) (hBw : B ≤ w.heap.size) :
    Calls Try.prog 50 #[.pointer (some ⟨b, 0, none⟩), .string s] w fun e w' => e = .returned (.tuple #[.int .i64 s.size, .nilIface]) ∧ (Bld B b (l ++ toBs s) w' ∧ Below B w w' ∧ Lib.OthersKept 5 (some b) w w') := by
  refine (Any.Builder_WriteString_k Try.bld166 Try.bldX B b (Lib.byteCells l) s w h (by simpa [Lib.byteCells_length] using hlen) hBw).mono ?_
  rintro e w' ⟨he, h1, h2, h3⟩
  exact ⟨he, by unfold Bld; rw [show Lib.byteCells (l ++ toBs s) = Lib.byteCells l ++ Lib.strCells s from by simp [Lib.byteCells, Lib.strCells, toBs]]; exact Or.inr h1, h2, h3⟩

theorem bld_string (B b : Nat) (l : Bs) (w : World) (h : Bld B b l w) (hBw : B ≤ w.heap.size) :
    Calls Try.prog 51 #[.pointer (some ⟨b, 0, none⟩)] w fun e w' => e = .returned (.string (ofBs l)) ∧ (Bld B b l w' ∧ Below B w w' ∧ Lib.OthersKept 5 (some b) w w') :=
  Any.Builder_String_any_k Try.bld169 Try.bldX B b l w h hBw

theorem bld_len (B b : Nat) (l : Bs) (w : World) (h : Bld B b l w) :
    Calls Try.prog 68 #[.pointer (some ⟨b, 0, none⟩)] w fun e w' => e = .returned (.int .i64 l.length) ∧ w' = w := by
  refine (Any.Builder_Len_f Try.bld170 B b (Lib.byteCells l) w h).mono ?_
  rintro e w' ⟨he, h1⟩
  exact ⟨by rw [he, Lib.byteCells_length], h1⟩

theorem bld_new (w : World) : Bld w.heap.size w.heap.size [] (w.alloc (.cells #[.pointer none, .slice none 0 0] 56 (0, 0))) := by
  refine Or.inl ⟨Nat.le_refl _, .slice none 0 0, heap_alloc_new w _, ⟨by simp, Or.inl ⟨rfl, rfl⟩⟩, by simp [Value.ownBlock]⟩
end Go.Proofs.Ytggodagdfldndaa

/-! quote.Quoted walked: the range over the pieces between quotes, and what is written of them: the plain 'quoted'. -/
namespace Go.Proofs.Ytggodagdfldndaa
open Go.RowKit Go.Shelf
attribute [local go_sem] Oper.semAt_some
/-- A piece. -/
abbrev Pc := { x : ByteArray // x.size ≤ 1048576 }
/-- What the iterator asks of a round: what it captured stays. -/
def KpC (a : Addr) (v : Value) (W W' : World) : Prop := W.cell? a = some v → W'.cell? a = some v
def pcs (l : List Pc) : List Bs := l.map (fun x => toBs x.1)
set_option maxHeartbeats 1000000 in
set_option maxRecDepth 100000 in
theorem pieces_make (s : ByteArray) (w : World) :
    Calls Try.prog 48 #[.string s] w fun e w' => e = .returned (.func (.func 71) #[] #[.pointer (some ⟨w.heap.size, 0, none⟩)]) ∧ w' = w.alloc (.cells #[.string s] 9) := by
  go_enter Try.func48, Try.ntmps48
  go_wp2
  go_ret
  exact ⟨rfl, rfl⟩
set_option maxHeartbeats 2000000 in
set_option maxRecDepth 100000 in
theorem pieces_stops (s : ByteArray) (hs : s.size ≤ 1048576) (b : Nat) (w : World) (hc : w.cell? ⟨b, 0, none⟩ = some (.string s)) (hb : b < w.heap.size) :
    SeqStopsK Fence.wide 11 Try.prog 71 #[.pointer (some ⟨b, 0, none⟩)] (fun x : Pc => #[.string x.1]) (KpC ⟨b, 0, none⟩ (.string s)) (fun xs => pcs xs = pieces (toBs s) []) (fun _ => True) (s.size + 1) w := fun l J Jx W hW hJ hJx hY h0 => by
  have hcW : W.cell? ⟨b, 0, none⟩ = some (.string s) := (hW.cell (p := ⟨b, 0, none⟩) hb).trans hc
  clear hc
  refine callsIn_of_wp Try.func71 rfl trivial ?_ rfl
  simp only [Try.ntmps71, List.size_toArray, List.length_cons, List.length_nil, Nat.reduceAdd, Nat.reduceSub, Array.replicate_succ, Array.replicate_zero, List.push_toArray, List.append_toArray, List.nil_append, List.cons_append]
  gi_wp2
  gi_loopw [3, 7] (fun f i wr => ∃ (pre : List Pc) (k fr : Nat), k ≤ s.size ∧ fr ≤ k ∧ pre.length ≤ fr ∧ f = .int .i64 fr ∧ i = .int .i64 k ∧ PcRel (toBs s) (pcs pre) k fr ∧ J pre wr ∧ wr.cell? ⟨b, 0, none⟩ = some (.string s)) (fun _ i _ => s.size - (intOf i).toNat)
  case atStart =>
    exact ⟨[], 0, 0, Nat.zero_le _, Nat.le_refl _, Nat.le_refl _, rfl, rfl, pcRel_start _, h0, hcW⟩
  case round =>
    obtain ⟨pre, k, fr, hk, hf, hp, rfl, rfl, hr, hj, hcr⟩ := hrel
    by_cases hlt : k < s.size
    · by_cases hq : s[k] = 34
      · have hqx : ((s[k].toNat : Int) == 34) = true := u8_eq 34 hq
        have hr2 := pcRel_quote s _ k fr hlt hf hq hr
        clear hq
        obtain ⟨fn, tmps, assign, body, hy, hR⟩ := hY pre ⟨s.extract fr (k + 1), by rw [ByteArray.size_extract]; omega⟩ wr hj (by omega)
        dsimp only at hy
        have b1 : (0 : Int) ≤ fr := by omega
        have b2 : (fr : Int) ≤ (k : Int) + 1 := by omega
        have b3 : (k : Int) + 1 ≤ (s.size : Int) := by omega
        gi_wp2
        refine hR.mono ?_
        rintro e W' (⟨rfl, hJ', hk'⟩ | ⟨rfl, hx'⟩)
        · have hc' := hk' hcr
          gi_wp2
          go_roundw
          case rel => exact ⟨pre ++ [⟨s.extract fr (k + 1), by rw [ByteArray.size_extract]; omega⟩], k + 1, k + 1, by omega, Nat.le_refl _, by simp; omega, by go_num, by go_num, by simpa [pcs] using hr2, hJ', hc'⟩
          case measure => simp [intOf]; omega
        · gi_wp2
          refine bodyPost_ret (results_none rfl _ _ _) rfl ?_
          exact ⟨⟨_, rfl⟩, .inr ⟨_, trivial, hx'⟩⟩
      · have hqx : ((s[k].toNat : Int) == 34) = false := u8_ne 34 hq
        have hr2 := pcRel_other s _ k fr hlt hf hq hr
        clear hq
        gi_wp2
        go_roundw
        case rel => exact ⟨pre, k + 1, fr, by omega, by omega, hp, rfl, by go_num, hr2, hj, hcr⟩
        case measure => simp [intOf]; omega
    · have hfin := pcRel_end s _ k fr hlt hf hr
      obtain ⟨fn, tmps, assign, body, hy, hR⟩ := hY pre ⟨s.extract fr s.size, by rw [ByteArray.size_extract]; omega⟩ wr hj (by omega)
      dsimp only at hy
      gi_wp2
      refine hR.mono ?_
      rintro e W' (⟨rfl, hJ', hk'⟩ | ⟨rfl, hx'⟩)
      · gi_wp2
        go_end0
        exact ⟨⟨_, rfl⟩, .inl ⟨_, by simpa [pcs] using hfin, hJ'⟩⟩
      · gi_wp2
        go_end0
        exact ⟨⟨_, rfl⟩, .inr ⟨_, trivial, hx'⟩⟩

theorem othersKept_keeps {b : Nat} {W W' : World} (h : Lib.OthersKept 5 (some b) W W') (hs : W.heap.size ≤ W'.heap.size) (hb : ∃ cs T fz, W.heap[b]? = some (.cells cs T fz)) : KeepsOthers W W' := by
  refine ⟨hs, fun k o hk ho => h k o hk ?_ ?_⟩
  · intro e
    obtain ⟨cs, T, fz, hc⟩ := hb
    rw [← Option.some.inj e, hk] at hc
    rw [Option.some.inj hc] at ho; cases ho
  · intro c fz e; rw [e] at ho; cases ho
theorem Bld.block {B b : Nat} {l : Bs} {w : World} (h : Bld B b l w) : ∃ cs T fz, w.heap[b]? = some (.cells cs T fz) := by
  rcases h with ⟨_, v, hb, _⟩ | ⟨_, v, hb, _⟩ <;> exact ⟨_, _, _, hb⟩
theorem Bld.kept {B b : Nat} {l : Bs} {W W' : World} {row : Option Nat} (h : Bld B b l W) (hg : W.grownBy W' row) (hr : ∀ r, row = some r → ∃ o : Obj, W.heap[r]? = some o ∧ o.isCells = false) : Bld B b l W' := by
  have key : ∀ p, Lib.BuilderAtF 56 5 B b p (Lib.byteCells l) W → Lib.BuilderAtF 56 5 B b p (Lib.byteCells l) W' := by
    intro p ⟨hB, v, hb, hown, hne⟩
    refine ⟨hB, v, (grownBy_keeps_cells hg hr hb rfl).trans hb, ⟨by have := hg.size; have := hown.1; omega, ?_⟩, hne⟩
    rcases hown.2 with h1 | ⟨g, cap, cur, fz, hv, hbg, hgg, rest⟩
    · exact .inl h1
    · exact .inr ⟨g, cap, cur, fz, hv, hbg, (grownBy_keeps_cells hg hr hgg rfl).trans hgg, rest⟩
  rcases h with h | h
  · exact .inl (key _ h)
  · exact .inr (key _ h)

theorem Bld.alloc {B b : Nat} {l : Bs} {w : World} (h : Bld B b l w) (o : Obj) : Bld B b l (w.alloc o) := h.kept (World.grownBy_alloc w o none) (fun r e => by cases e)
theorem othersKept_block {b k : Nat} {W W' : World} {cs : Array Value} {T : TypeId} {fz : Nat × Nat} (h : Lib.OthersKept 5 (some b) W W') (hc : W.heap[k]? = some (.cells cs T fz)) (hT : T ≠ 5) (hb : k ≠ b) : W'.heap[k]? = some (.cells cs T fz) :=
  h k _ hc (fun e => hb (Option.some.inj e)) (fun c z e => by injection e with _ e2 _; exact hT e2)
set_option maxRecDepth 100000 in
set_option maxHeartbeats 2000000 in
theorem quoted_walk (s : ByteArray) (w : World) (hs : s.size ≤ 1048576) :
    Calls Try.prog 24 #[.string s] w fun e w' => e = .returned (.string (ofBs (quoted (toBs s)))) ∧ Below w.heap.size w w' := by
  refine (callsIn_wide (n := 12)).1 ?_
  refine callsIn_of_wp_marks Try.func24 rfl trivial ?_ rfl
  simp only [Try.ntmps24, List.size_toArray, List.length_cons, List.length_nil, Nat.reduceAdd, Nat.reduceSub, Array.replicate_succ, Array.replicate_zero, List.push_toArray, List.append_toArray, List.nil_append, List.cons_append]
  have hnew := bld_new w
  gi_wp2_with (refine ⟨trivial, ?_⟩; gi_at_call 48; refine (callsIn_wide.2 (pieces_make _ _)).mono ?_; rintro e w' ⟨rfl, rfl⟩)
  have hB0 : Below w.heap.size w ((w.alloc (.cells #[.pointer none, .slice none 0 0] 56)).alloc (.cells #[.string s] 9)) := ((Below.refl _ w).alloc (Nat.le_refl _) _).alloc (by simp) _
  have hcs : ((w.alloc (.cells #[.pointer none, .slice none 0 0] 56)).alloc (.cells #[.string s] 9)).heap[w.heap.size + 1]? = some (.cells #[.string s] 9 (0, 0)) := by
    have := heap_alloc_new (w.alloc (.cells #[.pointer none, .slice none 0 0] 56)) (.cells #[.string s] 9)
    rwa [World.size_alloc] at this
  refine wpIn_rangeFunc_ownF rfl (by omega) (gf := 71) (lb := #[.pointer (some ⟨w.heap.size + 1, 0, none⟩)]) rfl trivial (enters_of Try.func71 (by kernel_rfl) rfl)
    (pieces_stops s hs (w.heap.size + 1) _ (by rw [Lib.cell_of_heap hcs]; rfl) (by simp)) (fun h k hv => k (h hv)) ?kb (Below.refl _ _) (fun _ => rfl)
    (fun pre W => (Bld w.heap.size w.heap.size (accs (pcs pre)) W ∧ W.heap[w.heap.size + 1]? = some (.cells #[.string s] 9 (0, 0)) ∧ pre.length ≤ s.size + 1) ∧ Below w.heap.size w W)
    (fun _ _ _ => False)
    (OwnFrom.and (Own.from (fun t A B row ht hg hr => ⟨ht.1.kept hg hr, (grownBy_keeps_cells hg hr ht.2.1 rfl).trans ht.2.1, ht.2.2⟩) _) (ownFrom_below (Nat.le_refl _) (by simp; omega)))
    (fun _ _ _ _ _ ht _ _ => ht)
    ⟨⟨?bld0, hcs, Nat.zero_le _⟩, hB0⟩
    (fun x => { tmps := #[.string s, undef, .string ⟨#[]⟩, .pointer (some ⟨w.heap.size, 0, none⟩), .string x.1, .string s, .func (.func 71) #[] #[.pointer (some ⟨w.heap.size + 1, 0, none⟩)], .string x.1, undef, undef, undef, undef, undef], defers := [] }) ?assign ?body ?done ?stop
  case kb =>
    intro W l o o' hl hW ho _ hv
    exact cell_kept hv (grownBy_putObj' W l o') (fun r e => by cases e; exact ⟨o, hW, ho⟩)
  case bld0 => exact Bld.alloc hnew _
  case assign =>
    intro l x W K hK
    gi_wp2
    exact hK
  case body =>
    rintro l pre x W ⟨⟨hbd, hcW, hlen⟩, hB⟩ hN
    have hsz := hB.size
    have hx := x.2
    have hlen2 : (accs (pcs pre)).length ≤ 1099513724929 := by
      have h1 := accs_length_le 1048576 (pcs pre) (fun p hp => by obtain ⟨y, _, rfl⟩ := List.mem_map.1 hp; rw [size_toBs]; exact y.2)
      have h2 : (pcs pre).length ≤ 1048577 := by rw [pcs, List.length_map]; omega
      have h3 : (pcs pre).length * (1048576 + 1) ≤ 1048577 * (1048576 + 1) := Nat.mul_le_mul_right _ h2
      omega
    gi_wp2_with (refine ⟨trivial, ?_⟩; gi_at_call 49; refine (CallsIn.inRound l (callsIn_wide.2 (bld_writeByte _ _ _ 34 _ hbd (by omega) hsz))).mono ?_; rintro e W1 ⟨rfl, hb1, hbel1, hk1⟩)
    have hsz1 := hbel1.size
    have hc1 := othersKept_block hk1 hcW (by decide) (by omega)
    have hko1 := othersKept_keeps hk1 hsz1 hbd.block
    refine ⟨trivial, (CallsIn.inRound l (callsIn_wide.2 (bld_writeString _ _ _ x.1 _ hb1 (by simp; omega) (by omega)))).mono ?_⟩
    rintro e W2 ⟨rfl, hb2, hbel2, hk2⟩
    have hsz2 := hbel2.size
    have hc2 := othersKept_block hk2 hc1 (by decide) (by omega)
    have hko2 := othersKept_keeps hk2 hsz2 hb1.block
    gi_wp2
    refine ⟨hko1.trans hko2, fun _ => (by rw [Lib.cell_of_heap hc2]; rfl), ⟨?_, hc2, ?_⟩, (hB.trans hbel1).trans hbel2⟩
    · simp only [pcs, List.map_append, List.map_cons, List.map_nil]
      rw [accs_snoc]
      exact hb2
    · simp; omega
  case done =>
    rintro D ys W hD hS ⟨⟨hbd, hcW, hlen⟩, hB⟩ hK
    have hsz := hB.size
    have hacc : accs (pcs ys) = 34 :: twice (toBs s) := by rw [hS, accs_pieces]; simp
    have htw := twice_length_le (toBs s)
    rw [size_toBs] at htw
    rw [hacc] at hbd
    gi_wp2_with (refine ⟨trivial, ?_⟩; gi_at_call 49; refine (callsIn_wide.2 (bld_writeByte _ _ _ 34 _ hbd (by simp; omega) hsz)).mono ?_; rintro e W1 ⟨rfl, hb1, hbel1, hk1⟩)
    have hsz1 := hbel1.size
    refine ⟨trivial, (callsIn_wide.2 (bld_string _ _ _ _ hb1 (by omega))).mono ?_⟩
    rintro e W2 ⟨rfl, hb2, hbel2, hk2⟩
    have hK2 := (othersKept_keeps hk2 hbel2.size hb1.block).same D _ ((othersKept_keeps hk1 hsz1 hbd.block).same D _ hK rfl) rfl
    gi_wp2
    refine ⟨by simp, .inl ⟨_, _, rfl, run_takeDeferred hK2, ?_⟩⟩
    refine ⟨_, results_tmp rfl _ _ _, rfl, ?_⟩
    exact ((hB.trans hbel1).trans hbel2).trans (belowK_b (w := w) (Nat.le_refl _) W2 D _ _ (by simp at hD; omega) hK2 rfl rfl)
  case stop =>
    rintro D c pre W _ _ h _
    exact h.elim

namespace Q
/-- quote.Quoted, as a plain function. -/
def quote_Quoted.f (a0 : ByteArray) : Option ByteArray := if a0.size ≤ 1048576 then some (ofBs (quoted (toBs a0))) else none
theorem quote_Quoted.calls (a0 : ByteArray) (r : ByteArray) (w : World) (h : quote_Quoted.f a0 = some r) :
    Calls Try.prog 24 #[.string a0] w fun e w' => e = .returned (.string r) ∧ Below w.heap.size w w' := by
  unfold quote_Quoted.f at h
  by_cases hs : a0.size ≤ 1048576
  · rw [if_pos hs] at h
    obtain rfl := Option.some.inj h
    exact quoted_walk a0 w hs
  · rw [if_neg hs] at h; cases h
end Q
end Go.Proofs.Ytggodagdfldndaa

/-! A range over a function whose next element is tied to those before it (R): the kit's law for ranges over functions (its text RangeFuncFrom), proved again after its pattern, with that tie. -/
namespace Go.Proofs.Ytggodagdfldndaa
open Go Go.RowKit
variable {F : Fence} {n : Nat} {P : Program}
/-- An iterator that yields, behind what it has yielded, only what R allows. -/
def SeqStopsN {α : Type} (F : Fence) (n : Nat) (P : Program) (g : Nat) (lb : Array Value) (encs : α → Array Value) (Kp : World → World → Prop) (R : List α → α → Prop) (S Sp : List α → Prop) (w : World) : Prop :=
  ∀ (l : Nat) (J Jx : List α → World → Prop) (W : World), Below w.heap.size w W → AbidesFrom W.heap.size J → AbidesFrom W.heap.size Jx →
    (∀ pre x W1, J pre W1 → R pre x → YieldAt F (n - 1) P l (encs x) W1 fun e W' => (e = .returned (.bool true) ∧ J (pre ++ [x]) W' ∧ Kp W1 W') ∨ (e = .returned (.bool false) ∧ Jx (pre ++ [x]) W')) →
    J [] W →
    CallsIn F n P g (#[.func (.yield l) #[] #[]] ++ lb) W fun e W' => (∃ v, e = .returned v) ∧ ((∃ xs, S xs ∧ J xs W') ∨ (∃ pre, Sp pre ∧ Jx pre W'))
theorem wpIn_rangeFunc_next {α : Type} {g : Operand} {ps : Array Tmp} {assign body : Code} {Q : Exit → Act → World → Prop} {a : Act} {w : World}
    (hro : F.round = none) (h1 : 1 ≤ n) {gf : Nat} {lb : Array Value} (hg : a.eval g = .func (.func gf) #[] lb) (hFg : F.fn gf) (eg : ∀ args w, (callFunc gf args).run P w = .ok (.enter gf args) w)
    {encs : α → Array Value} {Kp : World → World → Prop} {R : List α → α → Prop} {S Sp : List α → Prop} {w0 : World} (hseq : SeqStopsN F (n - 1) P gf lb encs Kp R S Sp w0)
    (hKt : ∀ {A B C : World}, Kp A B → Kp B C → Kp A C) (hKb : ∀ (W : World) (l : Nat) (o o' : Obj), w.heap.size ≤ l → W.heap[l]? = some o → o.isCells = false → o.isWalk = false → Kp W (W.putObj l o')) (hb0 : Below w0.heap.size w0 w) (hps : ∀ x, (encs x).size = ps.size)
    (I : List α → World → Prop) (Ix : Code → List α → World → Prop) (hI : OwnFrom w.heap.size I) (hIx : ∀ c, OwnFrom w.heap.size (Ix c)) (h0 : I [] w) (M : List α → α → Act → World → Prop) (hM : ∀ pre x a1, OwnFrom w.heap.size (fun (_ : Unit) W => M pre x a1 W))
    (hassign : ∀ (l : Nat) (pre : List α) (x : α) (W : World) (K : Act → World → Prop), I pre W → R pre x → (∀ a1 W1, KeepsOthers W W1 → Kp W W1 → M pre x a1 W1 → K a1 W1) →
      assign.wpIn (F.inRound l) (n - 1 - 1) P (Exit.then K (fun _ _ _ => False)) { tmps := (ps.zip (encs x)).foldl (fun t (p, v) => t.setIfInBounds p v) a.tmps, defers := [] } W)
    (hbody : ∀ (l : Nat) (pre : List α) (x : α) (a1 : Act) (W : World), M pre x a1 W → body.wpIn (F.inRound l) (n - 1 - 1) P (ownPostK Kp I Ix (pre ++ [x]) W) a1 W)
    (hdone : ∀ (D : Nat) (xs : List α) (W : World), w.heap.size ≤ D → S xs → I xs W → W.heap[D]? = some (.deferred (some [])) → Q .normal { a with defers := { target := .collected D, args := #[] } :: a.defers } W)
    (hstop : ∀ (D : Nat) (c : Code) (pre : List α) (W : World), w.heap.size ≤ D → Sp pre → Ix c pre W → W.heap[D]? = some (.deferred (some [])) → c.wpIn F n P Q { a with defers := { target := .collected D, args := #[] } :: a.defers } W) :
    (Code.rangeFunc g ps assign body).wpIn F n P Q a w := by
  refine wpIn_rangeFunc ?_
  intro fn hfn
  rw [hro]
  obtain ⟨rec, hrec⟩ : ∃ rec : LoopState → Option Code → Loop, rec = fun st pe => { state := st, pending := pe, fn, tmps := a.tmps, params := ps, assign, body, defers := w.heap.size } := ⟨_, rfl⟩
  obtain ⟨W1, hW1⟩ : ∃ W1, (w.alloc (.deferred (some []))).alloc (.loop (rec .ready none)) = W1 := ⟨_, rfl⟩
  have hL1 : W1.heap[w.heap.size + 1]? = some (.loop (rec .ready none)) := by
    rw [← hW1]; have := World.alloc_heap_new (w.alloc (.deferred (some []))) (.loop (rec .ready none)); rwa [World.size_alloc] at this
  have hK1 : W1.heap[w.heap.size]? = some (.deferred (some [])) := by
    rw [← hW1]; exact (Below.heap_alloc _ _ _ (by simp)).trans (World.alloc_heap_new w _)
  have hI1 : I [] W1 := by rw [← hW1]; exact hI.alloc _ (hI.alloc _ h0)
  have hb1 : Below w0.heap.size w0 W1 := by
    rw [← hW1]; exact hb0.trans ((((Below.refl _ w).alloc (Nat.le_refl _) _).alloc (by simp) _).mono hb0.size)
  refine ⟨w.heap.size + 1, [{ target := .collected w.heap.size, args := #[] }], W1, { target := .fn (.func gf) lb, args := #[.func (.yield (w.heap.size + 1)) #[] #[]] }, W1, gf,
    #[.func (.yield (w.heap.size + 1)) #[] #[]] ++ lb, W1, ?_, ?_, ?_, ?_, fun _ => h1, ?_⟩
  · rw [← hW1, hrec]; exact run_enterLoop_outer _ _ _ _ _
  · simp only [resolve, hg]
    simp [go_sem]
  · intro f' hf'; simp [Target.leads] at hf'; subst hf'; exact hFg
  · simp [invoke, go_sem, eg]
  · -- THE ITERATOR's CONTRACT, AT THE CALLER's INVARIANT WITH THE TWO FACTS OF BOOK-KEEPING BESIDE IT
    have hnw : ∀ {A B : World} {row : Option Nat}, (∀ r, row = some r → W1.heap.size ≤ r ∧ ∃ o : Obj, A.heap[r]? = some o ∧ o.isWalk = true) → (∀ r, row = some r → w.heap.size ≤ r ∧ ∃ o : Obj, A.heap[r]? = some o ∧ o.isCells = false) :=
      fun hr r e => by obtain ⟨hB, o, ho, hw⟩ := hr r e; exact ⟨by rw [← hW1] at hB; simp at hB; omega, o, ho, Obj.not_cells_of_walk hw⟩
    refine (hseq (w.heap.size + 1)
      (fun pre W => I pre W ∧ W.heap[w.heap.size + 1]? = some (.loop (rec .ready none)) ∧ W.heap[w.heap.size]? = some (.deferred (some [])))
      (fun pre W => ∃ c, Ix c pre W ∧ W.heap[w.heap.size + 1]? = some (.loop (rec .done (some c))) ∧ W.heap[w.heap.size]? = some (.deferred (some [])))
      W1 hb1
      (fun s A B row hs hg' hr => ⟨hI s A B row hs.1 hg' (hnw (B := B) hr), (grownBy_keeps hg' (fun r e => (hr r e).2) hs.2.1 rfl).trans hs.2.1, (grownBy_keeps hg' (fun r e => (hr r e).2) hs.2.2 rfl).trans hs.2.2⟩)
      (fun s A B row hs hg' hr => by
        obtain ⟨c, hc, hl, hk⟩ := hs
        exact ⟨c, hIx c s A B row hc hg' (hnw (B := B) hr), (grownBy_keeps hg' (fun r e => (hr r e).2) hl rfl).trans hl, (grownBy_keeps hg' (fun r e => (hr r e).2) hk rfl).trans hk⟩)
      ?_ ⟨hI1, hL1, hK1⟩).mono ?_
    · -- ONE ROUND
      rintro pre x W ⟨hi, hl, hk⟩ hnx
      have hlt : w.heap.size + 1 < W.heap.size := (Array.getElem?_eq_some_iff.1 hl).1
      have hy := run_yield (P := P) (args := encs x) hl (by rw [hrec]; exact hps x)
      rw [hrec] at hy
      refine ⟨fn, _, assign, body, hy, roundIn_of_wpIn hfn (hassign _ pre x W _ hi hnx ?_)⟩
      intro a1 Wa hka hkpa hm1
      have hla : Wa.heap[w.heap.size + 1]? = some (.loop (rec .ready none)) := hka.same _ _ hl rfl
      have hda : Wa.heap[w.heap.size]? = some (.deferred (some [])) := hka.same _ _ hk rfl
      have hlt : w.heap.size + 1 < Wa.heap.size := (Array.getElem?_eq_some_iff.1 hla).1
      refine ⟨_, run_beginRound hla (by rw [hrec]), ?_⟩
      have hl2 : (Wa.putObj (w.heap.size + 1) (.loop { rec .ready none with state := .busy })).heap[w.heap.size + 1]? = some (.loop { rec .ready none with state := .busy }) := World.putObj_heap_same hlt
      have hk2 : (Wa.putObj (w.heap.size + 1) (.loop { rec .ready none with state := .busy })).heap[w.heap.size]? = some (.deferred (some [])) := (World.putObj_heap_other (by omega)).trans hda
      have hw2 : Kp W (Wa.putObj (w.heap.size + 1) (.loop { rec .ready none with state := .busy })) := hKt hkpa (hKb _ _ _ _ (by omega) hla rfl rfl)
      refine wpIn_mono (hbody _ pre x a1 _ ((hM pre x a1).putObj (s := ()) _ hm1 (by omega) hla rfl)) ?_
      have fin : ∀ (jump : Option Code) (W3 : World), KeepsOthers (Wa.putObj (w.heap.size + 1) (.loop { rec .ready none with state := .busy })) W3 →
          (Instr.endRound (w.heap.size + 1) jump).run P W3 = .ok (.bool jump.isNone) (W3.putObj (w.heap.size + 1) (.loop (rec (if jump.isNone then .ready else .done) jump))) ∧
          W3.heap[w.heap.size + 1]? = some (.loop { rec .ready none with state := .busy }) ∧
          (W3.putObj (w.heap.size + 1) (.loop (rec (if jump.isNone then .ready else .done) jump))).heap[w.heap.size + 1]? = some (.loop (rec (if jump.isNone then .ready else .done) jump)) ∧
          (W3.putObj (w.heap.size + 1) (.loop (rec (if jump.isNone then .ready else .done) jump))).heap[w.heap.size]? = some (.deferred (some [])) := fun jump W3 hk3 => by
        have hl3 := hk3.same _ _ hl2 rfl
        have := run_endRound (P := P) jump hl3
        rw [hrec] at this ⊢
        exact ⟨this, by rw [hrec] at hl3; exact hl3, World.putObj_heap_same (Array.getElem?_eq_some_iff.1 hl3).1, (World.putObj_heap_other (by omega)).trans (hk3.same _ _ hk2 rfl)⟩
      rintro e a3 W3 hp
      cases e with
      | normal =>
        obtain ⟨hk3, hkp3, hi3⟩ := hp
        obtain ⟨hr, hl3, hl4, hk4⟩ := fin none W3 hk3
        exact ⟨_, _, hr, .inl ⟨rfl, ⟨hI.putObj _ hi3 (by omega) hl3 rfl, hl4, hk4⟩, hKt (hKt hw2 hkp3) (hKb _ _ _ _ (by omega) hl3 rfl rfl)⟩⟩
      | ret =>
        obtain ⟨hk3, hi3⟩ := hp
        obtain ⟨hr, hl3, hl4, hk4⟩ := fin (some .ret) W3 hk3
        exact ⟨_, _, hr, .inr ⟨rfl, .ret, (hIx _).putObj _ hi3 (by omega) hl3 rfl, hl4, hk4⟩⟩
      | exit id =>
        obtain ⟨hk3, hi3⟩ := hp
        obtain ⟨hr, hl3, hl4, hk4⟩ := fin (some (.exit id)) W3 hk3
        exact ⟨_, _, hr, .inr ⟨rfl, .exit id, (hIx _).putObj _ hi3 (by omega) hl3 rfl, hl4, hk4⟩⟩
      | goto t =>
        obtain ⟨hk3, hi3⟩ := hp
        obtain ⟨hr, hl3, hl4, hk4⟩ := fin (some (.goto t)) W3 hk3
        exact ⟨_, _, hr, .inr ⟨rfl, .goto t, (hIx _).putObj _ hi3 (by omega) hl3 rfl, hl4, hk4⟩⟩
      | panic ch => exact hp.elim
      | outgrown => exact hp.elim
    · -- BEHIND THE ITERATOR
      rintro e W2 ⟨⟨v, rfl⟩, (⟨xs, hS, hi, hl, hk⟩ | ⟨pre, hSp, c, hi, hl, hk⟩)⟩
      · exact ⟨none, _, by have := run_endLoop (P := P) hl (by rw [hrec]; simp); rw [hrec] at this; exact this, hdone _ xs _ (Nat.le_refl _) hS (hI.putObj _ hi (by omega) hl rfl) ((World.putObj_heap_other (by omega)).trans hk)⟩
      · exact ⟨some c, _, by have := run_endLoop (P := P) hl (by rw [hrec]; simp); rw [hrec] at this; exact this, hstop _ c pre _ (Nat.le_refl _) hSp ((hIx c).putObj _ hi (by omega) hl rfl) ((World.putObj_heap_other (by omega)).trans hk)⟩



end Go.Proofs.Ytggodagdfldndaa

/-! Plain laws of chapter 1 (quoted cells): what is quoted is got back, and only that; unlike cells are written unlike. No Go in it. -/
namespace Go.Proofs.Ytggodagdfldndaa

/-! ### cells as they are written -/
def goodI (d : Int) : Bool := d != 34 && (d != 13 && d != 10)
def plain (l : Bs) (d : Int) : Bool := l.all fun c => (c.toNat : Int) != d && goodI c.toNat
def put (l : Bs) (d : Int) : Bs := if plain l d = true then l else quoted l
theorem plain_append (a b : Bs) (d : Int) : plain (a ++ b) d = (plain a d && plain b d) := by simp [plain, List.all_append]
theorem plain_no_quote {l : Bs} {d : Int} (h : plain l d = true) : (34 : UInt8) ∉ l := by
  intro hm
  have := (List.all_eq_true.1 h) _ hm
  revert this
  simp [goodI]
theorem toList_ofBs (l : Bs) : (ofBs l).toList = l := by rw [Lib.toList_data]; exact toBs_ofBs l
theorem toList_toBs (s : ByteArray) : s.toList = toBs s := Lib.toList_data s
theorem toBs_append (a b : ByteArray) : toBs (a ++ b) = toBs a ++ toBs b := by simp [toBs]
theorem ofBs_append (a b : Bs) : ofBs (a ++ b) = ofBs a ++ ofBs b := by
  rw [← ofBs_toBs (ofBs a ++ ofBs b), toBs_append, toBs_ofBs, toBs_ofBs]
theorem eq_ofBs {s : ByteArray} {l : Bs} (h : toBs s = l) : s = ofBs l := by rw [← h, ofBs_toBs]
theorem twice_of_plain {l : Bs} (h : (34 : UInt8) ∉ l) : twice l = l := by
  induction l with
  | nil => rfl
  | cons c r ih =>
    simp only [List.mem_cons, not_or] at h
    rw [twice, if_neg (fun e => h.1 e.symm), ih h.2]
theorem twice_length (l : Bs) : (twice l).length = l.length + l.count 34 := by
  induction l with
  | nil => rfl
  | cons c r ih =>
    by_cases h : c = 34
    · subst h; simp [twice, ih]; omega
    · rw [twice, if_neg h, List.length_cons, ih, List.length_cons, List.count_cons_of_ne h]; omega
theorem quoted_length (l : Bs) : (quoted l).length = l.length + l.count 34 + 2 := by simp [quoted, twice_length]

/-! ### what is quoted is got back, and only that -/
/-- What stands behind does not begin with a quote. -/
def NoQ (b : Bs) : Prop := ∀ c r, b = c :: r → c ≠ 34
theorem scan_quoted (l b : Bs) (h : NoQ b) : scan (twice l ++ 34 :: b) = some (l, (twice l).length + 1) := by
  induction l with
  | nil =>
    cases b with
    | nil => simp [twice, scan]
    | cons c r => have := h c r rfl; simp [twice, scan, this]
  | cons c r ih =>
    by_cases hc : c = 34
    · subst hc
      have e : twice (34 :: r) = 34 :: 34 :: twice r := by simp [twice]
      rw [e, List.cons_append, List.cons_append, scan_twice, ih]; simp
    · rw [twice, if_neg hc, List.cons_append, scan_other _ hc, ih]; simp
theorem getq_quoted (l b : Bs) (h : NoQ b) : getq (quoted l ++ b) = (l, (quoted l).length, 0) := by
  have e : quoted l ++ b = 34 :: (twice l ++ 34 :: b) := by simp [quoted]
  rw [e, getq, if_pos rfl, scan_quoted l b h]
  simp [quoted]
theorem scan_only : ∀ (s l : Bs) (n : Nat), scan s = some (l, n) → 1 ≤ n ∧ n ≤ s.length ∧ s.take n = twice l ++ [34] ∧ NoQ (s.drop n)
  | [], l, n, h => by simp [scan] at h
  | [c], l, n, h => by
    simp only [scan] at h
    split at h
    · rename_i hc
      simp only [Option.some.injEq, Prod.mk.injEq] at h
      obtain ⟨rfl, rfl⟩ := h
      refine ⟨by omega, by simp, by simp [twice, hc], ?_⟩
      intro c r e; simp at e
    · cases h
  | c :: d :: r, l, n, h => by
    simp only [scan] at h
    split at h
    · rename_i hc
      split at h
      · rename_i hd
        obtain ⟨⟨l', n'⟩, hs, he⟩ := Option.map_eq_some_iff.1 h
        simp only [Prod.mk.injEq] at he
        obtain ⟨rfl, rfl⟩ := he
        obtain ⟨h1, h2, h3, h4⟩ := scan_only r l' n' hs
        refine ⟨by omega, by simp; omega, ?_, by simpa using h4⟩
        rw [hc, hd]
        simp [twice, h3]
      · rename_i hd
        simp only [Option.some.injEq, Prod.mk.injEq] at h
        obtain ⟨rfl, rfl⟩ := h
        refine ⟨by omega, by simp, by simp [twice, hc], ?_⟩
        intro c' r' e
        simp at e
        exact e.1 ▸ hd
    · rename_i hc
      obtain ⟨⟨l', n'⟩, hs, he⟩ := Option.map_eq_some_iff.1 h
      simp only [Prod.mk.injEq] at he
      obtain ⟨rfl, rfl⟩ := he
      obtain ⟨h1, h2, h3, h4⟩ := scan_only (d :: r) l' n' hs
      refine ⟨by omega, by simp at h2 ⊢; omega, ?_, by simpa using h4⟩
      rw [List.take_succ_cons, h3, twice, if_neg hc]; rfl
theorem getq_only (s l : Bs) (n : Nat) (h : getq s = (l, n, 0)) : 2 ≤ n ∧ n ≤ s.length ∧ s.take n = quoted l ∧ NoQ (s.drop n) := by
  cases s with
  | nil => simp [getq] at h
  | cons c r =>
    simp only [getq] at h
    split at h
    · rename_i hc
      split at h
      · simp at h
      · rename_i p hp
        simp only [Prod.mk.injEq] at h
        obtain ⟨rfl, rfl, _⟩ := h
        obtain ⟨h1, h2, h3, h4⟩ := scan_only r p.1 p.2 hp
        refine ⟨by omega, by simp; omega, ?_, by simpa using h4⟩
        rw [List.take_succ_cons, h3, hc]; rfl
    · simp at h
theorem getq_fault (s : Bs) (h : (getq s).2.2 ≠ 0) : (getq s).1 = [] ∧ (getq s).2.1 = 0 := by
  cases s with
  | nil => exact ⟨rfl, rfl⟩
  | cons c r =>
    by_cases hc : c = 34
    · simp only [getq, if_pos hc] at h ⊢
      cases hs : scan r with
      | none => exact ⟨rfl, rfl⟩
      | some p => rw [hs] at h; exact absurd rfl h
    · simp only [getq, if_neg hc]; exact ⟨trivial, trivial⟩
theorem quoted_inj {a b : Bs} (h : quoted a = quoted b) : a = b := by
  have h1 := getq_quoted a [] (fun c r e => by cases e)
  have h2 := getq_quoted b [] (fun c r e => by cases e)
  rw [List.append_nil] at h1 h2
  rw [h, h2] at h1
  exact (congrArg Prod.fst h1).symm
theorem quoted_has_quote (l : Bs) : (34 : UInt8) ∈ quoted l := by simp [quoted]
theorem put_inj {a b : Bs} {d : Int} (h : put a d = put b d) : a = b := by
  unfold put at h
  split at h
  · rename_i ha
    split at h
    · exact h
    · have := plain_no_quote ha; rw [h] at this; exact absurd (quoted_has_quote b) this
  · split at h
    · rename_i hb; have := plain_no_quote hb; rw [← h] at this; exact absurd (quoted_has_quote a) this
    · exact quoted_inj h
end Go.Proofs.Ytggodagdfldndaa

/-! Plain functions of chapter 2 on lists of bytes: a break, what ends a field, a field of a text. No Go in it. -/
namespace Go.Proofs.Ytggodagdfldndaa
/-- How long the break is that stands at the beginning. -/
def breakR : Bs → Nat
  | [] => 0
  | [c] => if c = 10 then 1 else 0
  | c :: d :: _ => if c = 10 then 1 else if c = 13 ∧ d = 10 then 2 else 0
/-- What ends a field at the beginning (0: nothing does), and how long it is. -/
def endR (l : Bs) (d : Int) : Nat × Nat :=
  match l with
  | [] => (3, 0)
  | c :: r => if (c.toNat : Int) = d then (1, 1) else if breakR (c :: r) = 0 then (0, 0) else (2, breakR (c :: r))
/-- A field that does not begin with a quote: what it is, how many bytes it takes with what ends it, what ends it, the error. -/
def plainF (d : Int) : Bs → Bs × Nat × Nat × Nat
  | [] => ([], 0, 3, 0)
  | c :: r => if (endR (c :: r) d).1 = 0 then
      (if c = 34 then ([], 0, 0, 3) else if c = 13 then ([], 0, 0, 6) else
        if (plainF d r).2.2.2 = 0 then (c :: (plainF d r).1, (plainF d r).2.1 + 1, (plainF d r).2.2.1, 0) else ([], (plainF d r).2.1 + 1, 0, (plainF d r).2.2.2))
      else ([], (endR (c :: r) d).2, (endR (c :: r) d).1, 0)
/-- A field in quotes. -/
def quotedF (d : Int) (l : Bs) : Bs × Nat × Nat × Nat :=
  if (getq l).2.2 = 0 then
    (if (endR (l.drop (getq l).2.1) d).1 = 0 then ([], (getq l).2.1, 0, 5) else ((getq l).1, (getq l).2.1 + (endR (l.drop (getq l).2.1) d).2, (endR (l.drop (getq l).2.1) d).1, 0))
  else ([], 0, 0, (getq l).2.2)
def fieldR (d : Int) (l : Bs) : Bs × Nat × Nat × Nat := if l.head? = some 34 then quotedF d l else plainF d l
/-- A field at a place of a text. -/
def field (s : Bs) (i : Int) (d : Int) : Bs × Int × Nat × Nat :=
  if i < 0 ∨ (s.length : Int) < i then ([], i, 0, 11)
  else if goodI d = true then ((fieldR d (s.drop i.toNat)).1, i + (fieldR d (s.drop i.toNat)).2.1, (fieldR d (s.drop i.toNat)).2.2.1, (fieldR d (s.drop i.toNat)).2.2.2)
  else ([], i, 0, 2)

/-! ### a field, byte by byte -/
def addPre (p : Bs) (q : Bs × Nat × Nat × Nat) : Bs × Nat × Nat × Nat :=
  if q.2.2.2 = 0 then (p ++ q.1, p.length + q.2.1, q.2.2.1, 0) else ([], p.length + q.2.1, 0, q.2.2.2)
theorem plainF_kind (d : Int) : ∀ l : Bs, (plainF d l).2.2.2 ≠ 0 → (plainF d l).1 = [] ∧ (plainF d l).2.2.1 = 0
  | [], h => by simp [plainF] at h
  | c :: r, h => by
    unfold plainF at h ⊢
    split
    · rename_i h1
      rw [if_pos h1] at h
      split
      · exact ⟨rfl, rfl⟩
      · rename_i h2
        rw [if_neg h2] at h
        split
        · exact ⟨rfl, rfl⟩
        · rename_i h3
          rw [if_neg h3] at h
          split
          · rename_i h4; rw [if_pos h4] at h; exact absurd rfl h
          · exact ⟨rfl, rfl⟩
    · rename_i h1; rw [if_neg h1] at h; exact absurd rfl h
/-- At i bytes looked at. -/
def FRel (d : Int) (l : Bs) (a i : Nat) : Prop := plainF d (l.drop a) = addPre ((l.take i).drop a) (plainF d (l.drop i))
theorem addPre_nil (d : Int) (l : Bs) : addPre [] (plainF d l) = plainF d l := by
  unfold addPre
  split
  · rename_i h; rw [← h]; simp
  · rename_i h
    obtain ⟨h1, h2⟩ := plainF_kind d l h
    simp only [List.length_nil, Nat.zero_add]
    rw [← h1, ← h2]
theorem fRel_start (d : Int) (l : Bs) (a : Nat) : FRel d l a a := by
  unfold FRel
  have e : (l.take a).drop a = [] := List.drop_eq_nil_of_le (by rw [List.length_take]; omega)
  rw [e, addPre_nil]
theorem fRel_next (d : Int) (s : ByteArray) (a i : Nat) (ha : a ≤ i) (hi : i < s.size) (he : (endR ((toBs s).drop i) d).1 = 0) (h1 : s[i] ≠ 34) (h2 : s[i] ≠ 13) (h : FRel d (toBs s) a i) : FRel d (toBs s) a (i + 1) := by
  unfold FRel at *
  rw [drop_toBs s i hi] at he
  rw [h, drop_toBs s i hi, take_drop_snoc s i a hi ha]
  conv => lhs; rw [plainF, if_pos he, if_neg h1, if_neg h2]
  unfold addPre
  by_cases h4 : (plainF d ((toBs s).drop (i + 1))).2.2.2 = 0
  · simp [h4]; omega
  · simp [h4]; omega
theorem pre_length (s : ByteArray) (a i : Nat) (ha : a ≤ i) (hi : i ≤ s.size) : (((toBs s).take i).drop a).length = i - a := by
  rw [List.length_drop, List.length_take, size_toBs]; omega
theorem fRel_end (d : Int) (s : ByteArray) (a i : Nat) (ha : a ≤ i) (hi : i ≤ s.size) (he : (endR ((toBs s).drop i) d).1 ≠ 0) (h : FRel d (toBs s) a i) :
    plainF d ((toBs s).drop a) = (toBs (s.extract a i), i - a + (endR ((toBs s).drop i) d).2, (endR ((toBs s).drop i) d).1, 0) := by
  have e : plainF d ((toBs s).drop i) = ([], (endR ((toBs s).drop i) d).2, (endR ((toBs s).drop i) d).1, 0) := by
    cases hl : (toBs s).drop i with
    | nil => rfl
    | cons c r => rw [hl] at he; rw [plainF, if_neg he]
  unfold FRel at h
  rw [h, e]
  unfold addPre
  rw [if_pos rfl, toBs_extract, pre_length s a i ha hi]
  simp
theorem fRel_bad (d : Int) (s : ByteArray) (a i : Nat) (ha : a ≤ i) (hi : i < s.size) (he : (endR ((toBs s).drop i) d).1 = 0) (h : FRel d (toBs s) a i) :
    (s[i] = 34 → plainF d ((toBs s).drop a) = ([], i - a, 0, 3)) ∧ (s[i] ≠ 34 → s[i] = 13 → plainF d ((toBs s).drop a) = ([], i - a, 0, 6)) := by
  unfold FRel at h
  have hp := pre_length s a i ha (by omega)
  rw [drop_toBs s i hi] at he h
  constructor
  · intro h1
    rw [h, plainF, if_pos he, if_pos h1]
    unfold addPre
    simp [hp]
  · intro h1 h2
    rw [h, plainF, if_pos he, if_neg h1, if_pos h2]
    unfold addPre
    simp [hp]
theorem endR_nil (s : ByteArray) (d : Int) (i : Nat) (h : s.size ≤ i) : endR ((toBs s).drop i) d = (3, 0) := by
  rw [List.drop_eq_nil_of_le (by rw [size_toBs]; exact h)]; rfl
theorem breakR_le (l : Bs) : breakR l ≤ l.length ∧ breakR l ≤ 2 := by
  cases l with
  | nil => exact ⟨Nat.le_refl _, Nat.zero_le _⟩
  | cons c r =>
    cases r with
    | nil => simp only [breakR, List.length_cons, List.length_nil]; split <;> omega
    | cons e r => simp only [breakR, List.length_cons]; split; · omega
                  · split <;> omega
theorem endR_le (l : Bs) (d : Int) : (endR l d).2 ≤ l.length ∧ (endR l d).2 ≤ 2 ∧ (endR l d).1 ≤ 3 := by
  cases l with
  | nil => simp [endR]
  | cons c r =>
    have hb := breakR_le (c :: r)
    simp only [endR]
    split
    · simp
    · split
      · simp
      · exact ⟨hb.1, hb.2, by simp⟩
end Go.Proofs.Ytggodagdfldndaa

/-! Plain laws of chapter 2: what a field is made of; what is written is read back. No Go in it. -/
namespace Go.Proofs.Ytggodagdfldndaa

/-- A field that was read: its text (plain or in quotes), then what ends it. -/
def FieldIs (d : Int) (l : Bs) (q : Bs × Nat × Nat × Nat) : Prop :=
  ∃ t rest, l = t ++ rest ∧ (t = q.1 ∨ t = quoted q.1) ∧ (endR rest d).1 ≠ 0 ∧ q.2.2.1 = (endR rest d).1 ∧ q.2.1 = t.length + (endR rest d).2 ∧ t.getLast? ≠ some 13
theorem plainF_ok (d : Int) : ∀ l : Bs, (plainF d l).2.2.2 = 0 →
    ∃ rest, l = (plainF d l).1 ++ rest ∧ (endR rest d).1 ≠ 0 ∧ (plainF d l).2.2.1 = (endR rest d).1 ∧ (plainF d l).2.1 = (plainF d l).1.length + (endR rest d).2 ∧ (13 : UInt8) ∉ (plainF d l).1
  | [], _ => ⟨[], rfl, by simp [endR], rfl, rfl, by simp [plainF]⟩
  | c :: r, h => by
    unfold plainF at h ⊢
    by_cases h1 : (endR (c :: r) d).1 = 0
    · rw [if_pos h1] at h ⊢
      by_cases h2 : c = 34
      · rw [if_pos h2] at h; cases h
      · rw [if_neg h2] at h ⊢
        by_cases h3 : c = 13
        · rw [if_pos h3] at h; cases h
        · rw [if_neg h3] at h ⊢
          by_cases h4 : (plainF d r).2.2.2 = 0
          · rw [if_pos h4]
            obtain ⟨rest, e1, e2, e3, e4, e5⟩ := plainF_ok d r h4
            refine ⟨rest, ?_, e2, e3, ?_, ?_⟩
            · show c :: r = c :: ((plainF d r).1 ++ rest)
              rw [← e1]
            · show (plainF d r).2.1 + 1 = (plainF d r).1.length + 1 + _
              omega
            · show (13 : UInt8) ∉ c :: (plainF d r).1
              simp only [List.mem_cons, not_or]
              exact ⟨fun e => h3 e.symm, e5⟩
          · rw [if_neg h4] at h; exact absurd h h4
    · rw [if_neg h1]
      exact ⟨c :: r, rfl, h1, rfl, by simp, by simp⟩
theorem quoted_last (l : Bs) : (quoted l).getLast? = some 34 := by
  unfold quoted
  rw [List.getLast?_cons, List.getLast?_append]; simp
theorem fieldR_ok (d : Int) (l : Bs) (h : (fieldR d l).2.2.2 = 0) : FieldIs d l (fieldR d l) := by
  unfold fieldR at h ⊢
  by_cases hq : l.head? = some 34
  · rw [if_pos hq] at h ⊢
    unfold quotedF at h ⊢
    by_cases h1 : (getq l).2.2 = 0
    · rw [if_pos h1] at h ⊢
      by_cases h2 : (endR (l.drop (getq l).2.1) d).1 = 0
      · rw [if_pos h2] at h; cases h
      · rw [if_neg h2]
        obtain ⟨_, a2, a3, _⟩ := getq_only l (getq l).1 (getq l).2.1 (by rw [← h1])
        refine ⟨quoted (getq l).1, l.drop (getq l).2.1, ?_, Or.inr rfl, h2, rfl, ?_, ?_⟩
        · rw [← a3, List.take_append_drop]
        · show _ = (quoted (getq l).1).length + _
          rw [← a3, List.length_take, Nat.min_eq_left a2]
        · rw [quoted_last]; decide
    · rw [if_neg h1] at h; exact absurd h h1
  · rw [if_neg hq] at h ⊢
    obtain ⟨rest, e1, e2, e3, e4, e5⟩ := plainF_ok d l h
    exact ⟨_, rest, e1, Or.inl rfl, e2, e3, e4, fun e => e5 (List.mem_of_getLast? e)⟩
theorem plainF_bad (d : Int) : ∀ l : Bs, (plainF d l).2.2.2 ≠ 0 → (plainF d l).2.1 < l.length
  | [], h => by simp [plainF] at h
  | c :: r, h => by
    unfold plainF at h ⊢
    by_cases h1 : (endR (c :: r) d).1 = 0
    · rw [if_pos h1] at h ⊢
      by_cases h2 : c = 34
      · rw [if_pos h2]; simp
      · rw [if_neg h2] at h ⊢
        by_cases h3 : c = 13
        · rw [if_pos h3]; simp
        · rw [if_neg h3] at h ⊢
          by_cases h4 : (plainF d r).2.2.2 = 0
          · rw [if_pos h4] at h; exact absurd rfl h
          · rw [if_neg h4]
            have := plainF_bad d r h4
            show (plainF d r).2.1 + 1 < r.length + 1
            omega
    · rw [if_neg h1] at h; exact absurd rfl h
/-- A fault: no field, no kind, and the place lies in the text. -/
theorem fieldR_bad (d : Int) (l : Bs) (h : (fieldR d l).2.2.2 ≠ 0) : (fieldR d l).1 = [] ∧ (fieldR d l).2.2.1 = 0 ∧ (fieldR d l).2.1 < l.length := by
  unfold fieldR at h ⊢
  by_cases hq : l.head? = some 34
  · rw [if_pos hq] at h ⊢
    have hl : 0 < l.length := by
      cases l with
      | nil => cases hq
      | cons c r => simp
    unfold quotedF at h ⊢
    by_cases h1 : (getq l).2.2 = 0
    · rw [if_pos h1] at h ⊢
      by_cases h2 : (endR (l.drop (getq l).2.1) d).1 = 0
      · rw [if_pos h2]
        obtain ⟨_, a2, _, _⟩ := getq_only l (getq l).1 (getq l).2.1 (by rw [← h1])
        refine ⟨rfl, rfl, ?_⟩
        show (getq l).2.1 < l.length
        by_cases e : (getq l).2.1 = l.length
        · rw [e, List.drop_length] at h2; simp [endR] at h2
        · omega
      · rw [if_neg h2] at h; exact absurd rfl h
    · rw [if_neg h1]; exact ⟨rfl, rfl, hl⟩
  · rw [if_neg hq] at h ⊢
    obtain ⟨a1, a2⟩ := plainF_kind d l h
    exact ⟨a1, a2, plainF_bad d l h⟩
/-! ### what is written is read back -/
theorem plain_cons (c : UInt8) (r : Bs) (d : Int) : plain (c :: r) d = true → (c.toNat : Int) ≠ d ∧ c ≠ 34 ∧ c ≠ 13 ∧ c ≠ 10 ∧ plain r d = true := by
  intro h
  simp only [plain, List.all_cons, Bool.and_eq_true, goodI, bne_iff_ne, ne_eq] at h
  obtain ⟨⟨h1, h2, h3, h4⟩, h5⟩ := h
  refine ⟨h1, ?_, ?_, ?_, h5⟩
  · rintro rfl; exact h2 rfl
  · rintro rfl; exact h3 rfl
  · rintro rfl; exact h4 rfl
theorem plainF_end (d : Int) (rest : Bs) (he : (endR rest d).1 ≠ 0) : plainF d rest = ([], (endR rest d).2, (endR rest d).1, 0) := by
  cases rest with
  | nil => rfl
  | cons c r => rw [plainF, if_neg he]
theorem plainF_plain (d : Int) (rest : Bs) (he : (endR rest d).1 ≠ 0) : ∀ c : Bs, plain c d = true → plainF d (c ++ rest) = (c, c.length + (endR rest d).2, (endR rest d).1, 0)
  | [], _ => by rw [List.nil_append, plainF_end d rest he]; simp
  | c :: r, h => by
    obtain ⟨h1, h2, h3, h4, h5⟩ := plain_cons c r d h
    have hb : breakR (c :: (r ++ rest)) = 0 := by
      cases hh : r ++ rest with
      | nil => simp [breakR, h4]
      | cons a b => simp [breakR, h4, h3]
    have e0 : (endR (c :: (r ++ rest)) d).1 = 0 := by
      simp only [endR]
      rw [if_neg h1, if_pos hb]
    rw [List.cons_append, plainF, if_pos e0, if_neg h2, if_neg h3, plainF_plain d rest he r h5, if_pos rfl]
    simp; omega
theorem fieldR_put (d : Int) (c rest : Bs) (he : (endR rest d).1 ≠ 0) (hq : NoQ rest) : fieldR d (put c d ++ rest) = (c, (put c d).length + (endR rest d).2, (endR rest d).1, 0) := by
  unfold put
  by_cases hp : plain c d = true
  · rw [if_pos hp]
    have hh : (c ++ rest).head? ≠ some 34 := by
      cases c with
      | nil =>
        cases rest with
        | nil => simp
        | cons a b => have := hq a b rfl; simpa using this
      | cons a b => have := (plain_cons a b d hp).2.1; simpa using this
    unfold fieldR
    rw [if_neg hh, plainF_plain d rest he c hp]
  · rw [if_neg hp]
    have hh : (quoted c ++ rest).head? = some 34 := by simp [quoted]
    unfold fieldR quotedF
    rw [if_pos hh, getq_quoted c rest hq]
    dsimp only
    rw [if_pos rfl, List.drop_left, if_neg he]
/-- The break that a record ends with. -/
def brk (crlf : Bool) : Bs := if crlf = true then [13, 10] else [10]
/-- The cells of a record as they are written. -/
def rowR (d : Int) (c : UInt8) (l : List Bs) : Bs := Lib.join (l.map (fun x => put x d)) [c]
theorem rowR_one (d : Int) (c : UInt8) (x : Bs) : rowR d c [x] = put x d := Lib.join_one _ _
theorem rowR_cons (d : Int) (c : UInt8) (x y : Bs) (r : List Bs) : rowR d c (x :: y :: r) = put x d ++ c :: rowR d c (y :: r) := by
  unfold rowR
  rw [List.map_cons, Lib.join_cons, List.map_cons, Lib.join_cons]
  simp [Lib.joinTail]
theorem endR_delim (d : Int) (c : UInt8) (hd : (c.toNat : Int) = d) (r : Bs) : endR (c :: r) d = (1, 1) := by simp only [endR]; rw [if_pos hd]
theorem endR_brk (d : Int) (hg : goodI d = true) (crlf : Bool) (r : Bs) : endR (brk crlf ++ r) d = (2, (brk crlf).length) := by
  simp only [goodI, Bool.and_eq_true, bne_iff_ne, ne_eq] at hg
  obtain ⟨_, h2, h3⟩ := hg
  cases crlf with
  | true =>
    show endR (13 :: 10 :: r) d = (2, 2)
    simp only [endR]
    rw [if_neg (fun e => h2 e.symm)]
    simp [breakR]
  | false =>
    show endR (10 :: r) d = (2, 1)
    simp only [endR]
    have hb : breakR (10 :: r) = 1 := by cases r <;> simp [breakR]
    rw [if_neg (fun e => h3 e.symm), hb]
    simp
theorem noQ_brk (crlf : Bool) (r : Bs) : NoQ (brk crlf ++ r) := by
  intro c t e
  cases crlf with
  | true => rw [show brk true = [13, 10] from rfl] at e; rw [← (List.cons.inj e).1]; decide
  | false => rw [show brk false = [10] from rfl] at e; rw [← (List.cons.inj e).1]; decide
theorem noQ_delim (d : Int) (c : UInt8) (hd : (c.toNat : Int) = d) (hg : goodI d = true) (r : Bs) : NoQ (c :: r) := by
  intro a t e
  rw [← (List.cons.inj e).1]
  rintro rfl
  simp [goodI, ← hd] at hg
end Go.Proofs.Ytggodagdfldndaa

/-! Plain functions of chapter 3: the fields of a text one by one, the records of them. No Go in it. -/
namespace Go.Proofs.Ytggodagdfldndaa
/-- A field of a text: its record's number, its cell, what ended it, where it began (or what is wrong lies), the error. -/
structure It where
  m : Nat
  c : ByteArray
  kind : Nat
  pl : Nat
  e : Nat
/-- The field at a place, the n-th of the m-th record; and where the next one begins. -/
def lookR (s : Bs) (d : Int) (a n m : Nat) : It × Nat :=
  if 128 ≤ n ∨ 2048 ≤ m then (⟨m, ByteArray.empty, 0, a, 7⟩, a)
  else if (fieldR d (s.drop a)).2.2.2 = 0 then
    (if 4096 < (fieldR d (s.drop a)).1.length then (⟨m, ByteArray.empty, 0, a, 7⟩, a) else (⟨m, ofBs (fieldR d (s.drop a)).1, (fieldR d (s.drop a)).2.2.1, a, 0⟩, a + (fieldR d (s.drop a)).2.1))
  else (⟨m, ByteArray.empty, 0, a + (fieldR d (s.drop a)).2.1, (fieldR d (s.drop a)).2.2.2⟩, a)
/-- The fields from a place on. -/
def itsF (s : Bs) (d : Int) : Nat → Nat → Nat → Nat → List It
  | 0, _, _, _ => []
  | k + 1, a, n, m => if a < s.length ∨ 0 < n then
      (if (lookR s d a n m).1.e = 0 then
        (if (lookR s d a n m).1.kind = 1 then (lookR s d a n m).1 :: itsF s d k (lookR s d a n m).2 (n + 1) m else (lookR s d a n m).1 :: itsF s d k (lookR s d a n m).2 0 (m + 1))
       else [(lookR s d a n m).1])
    else []
def its (s : Bs) (d : Int) : List It := itsF s d (s.length + 2) 0 0 0
/-- One field more. -/
def addIt (l : List (List ByteArray)) (x : It) : List (List ByteArray) := if x.m = l.length then l ++ [[x.c]] else l.set x.m (l.getD x.m [] ++ [x.c])
def rowsOf (xs : List It) : List (List ByteArray) := xs.foldl addIt []
theorem rowsOf_snoc (xs : List It) (x : It) : rowsOf (xs ++ [x]) = addIt (rowsOf xs) x := by simp [rowsOf]
/-- A field is the next one. -/
def NextIt (L pre : List It) (x : It) : Prop := ∃ rest, L = pre ++ x :: rest
theorem lookR_m (s : Bs) (d : Int) (a n m : Nat) : (lookR s d a n m).1.m = m := by
  unfold lookR
  split
  · rfl
  · split
    · split <;> rfl
    · rfl
theorem addIt_length (l : List (List ByteArray)) (x : It) : (addIt l x).length = if x.m = l.length then l.length + 1 else l.length := by
  unfold addIt
  split
  · simp
  · simp
/-- A field's record is the last one that was begun, or the next. -/
theorem its_m (s : Bs) (d : Int) : ∀ (k a n m : Nat) (l : List (List ByteArray)) (pre : List It) (x : It) (rest : List It), itsF s d k a n m = pre ++ x :: rest → l.length = (if n = 0 then m else m + 1) →
    x.m ≤ (pre.foldl addIt l).length ∧ (pre.foldl addIt l).length ≤ x.m + 1
  | 0, a, n, m, l, pre, x, rest, h, hl => by
    simp [itsF] at h
  | k + 1, a, n, m, l, pre, x, rest, h, hl => by
    have hm := lookR_m s d a n m
    unfold itsF at h
    split at h
    · have first : ∀ tl, (lookR s d a n m).1 :: tl = pre ++ x :: rest → (pre = [] ∧ x = (lookR s d a n m).1) ∨ ∃ pre', pre = (lookR s d a n m).1 :: pre' ∧ tl = pre' ++ x :: rest := by
        intro tl e
        cases pre with
        | nil => exact Or.inl ⟨rfl, (List.cons.inj e).1.symm⟩
        | cons p pre' => exact Or.inr ⟨pre', by rw [(List.cons.inj e).1], (List.cons.inj e).2⟩
      have stay : ∀ y : It, y.m = m → (addIt l y).length = m + 1 := by
        intro y hy
        rw [addIt_length, hy, hl]
        by_cases hn : n = 0
        · rw [if_pos hn, if_pos rfl]
        · rw [if_neg hn, if_neg (by omega)]
      have base : x = (lookR s d a n m).1 → pre = [] → x.m ≤ (pre.foldl addIt l).length ∧ (pre.foldl addIt l).length ≤ x.m + 1 := by
        rintro rfl rfl
        rw [hm]
        show m ≤ l.length ∧ l.length ≤ m + 1
        rw [hl]
        split <;> omega
      split at h
      · split at h
        · rcases first _ h with ⟨h1, h2⟩ | ⟨pre', rfl, h2⟩
          · exact base h2 h1
          · exact its_m s d k _ _ m (addIt l (lookR s d a n m).1) pre' x rest h2 (by rw [stay _ hm, if_neg (by omega)])
        · rcases first _ h with ⟨h1, h2⟩ | ⟨pre', rfl, h2⟩
          · exact base h2 h1
          · exact its_m s d k _ _ (m + 1) (addIt l (lookR s d a n m).1) pre' x rest h2 (by rw [stay _ hm, if_pos rfl])
      · rcases first _ h with ⟨h1, h2⟩ | ⟨pre', rfl, h2⟩
        · exact base h2 h1
        · cases pre' <;> cases h2
    · cases pre <;> cases h
theorem next_m (s : Bs) (d : Int) (pre : List It) (x : It) (h : NextIt (its s d) pre x) : x.m ≤ (rowsOf pre).length ∧ (rowsOf pre).length ≤ x.m + 1 := by
  obtain ⟨rest, h⟩ := h
  exact its_m s d _ 0 0 0 [] pre x rest h rfl
/-- What ends a field, and how far the next place is. -/
theorem field_step (d : Int) (l : Bs) (h : (fieldR d l).2.2.2 = 0) :
    (fieldR d l).2.1 ≤ l.length ∧ (((fieldR d l).2.2.1 = 3 ∧ (fieldR d l).2.1 = l.length) ∨ ((fieldR d l).2.2.1 ≠ 3 ∧ (fieldR d l).2.2.1 ≠ 0 ∧ 1 ≤ (fieldR d l).2.1)) := by
  obtain ⟨t, rest, e1, e2, e3, e4, e5, e6⟩ := fieldR_ok d l h
  have hl := congrArg List.length e1
  rw [List.length_append] at hl
  have hle := endR_le rest d
  refine ⟨by omega, ?_⟩
  cases rest with
  | nil =>
    left
    simp only [endR] at e4 e5
    simp only [List.length_nil] at hl
    exact ⟨e4, by omega⟩
  | cons c r =>
    right
    have hb : ∀ l : Bs, breakR l ≤ 2 := fun l => (breakR_le l).2
    simp only [endR] at e3 e4 e5
    split at e4
    · rename_i hd
      rw [if_pos hd] at e5
      exact ⟨by simp [e4], by simp [e4], by simp at e5; omega⟩
    · rename_i hd
      rw [if_neg hd] at e5 e3
      split at e4
      · rename_i h2; rw [if_pos h2] at e3; exact absurd rfl e3
      · rename_i h2
        rw [if_neg h2] at e5
        exact ⟨by simp [e4], by simp [e4], by simp at e5; omega⟩
end Go.Proofs.Ytggodagdfldndaa

/-! quote.Get walked: it hands back what the plain 'getq' says. -/
namespace Go.Proofs.Ytggodagdfldndaa
open Go.RowKit Go.Shelf
set_option maxHeartbeats 1000000 in
set_option maxRecDepth 100000 in
theorem get_empty (s : ByteArray) (w : World) (hn : s.size = 0) :
    Calls Try.prog 31 #[.string s] w fun e w' => e = .returned (.tuple #[.string ⟨#[]⟩, .int .i64 0, .int .i64 3]) ∧ Below w.heap.size w w' := by
  have h1 : (s.toList == []) = true := by rw [(toList_eq_nil s).2 hn]; rfl
  clear hn
  go_enter Try.func31, Try.ntmps31
  go_wp2
  go_step3
  go_wp2
  rw [Exit.noGoto_ret]
  go_ret3
  exact ⟨rfl, Below.refl _ _⟩
set_option maxHeartbeats 1000000 in
set_option maxRecDepth 100000 in
theorem get_other (s : ByteArray) (w : World) (h0 : 0 < s.size) (h34 : ((s[0].toNat : Int) != 34) = true) :
    Calls Try.prog 31 #[.string s] w fun e w' => e = .returned (.tuple #[.string ⟨#[]⟩, .int .i64 0, .int .i64 3]) ∧ Below w.heap.size w w' := by
  have h1 := toList_beq_nil s h0
  go_enter Try.func31, Try.ntmps31
  go_wp2
  go_step3
  go_wp2
  rw [Exit.noGoto_ret]
  go_ret3
  exact ⟨rfl, Below.refl _ _⟩
theorem ret_getq (s : ByteArray) (a : Bs) (n e : Nat) (x y : Int) (h : getq (toBs s) = (a, n, e)) (hx : x = n) (hy : y = e) :
    Ending.returned (.tuple #[.string (ofBs a), .int .i64 x, .int .i64 y]) = .returned (.tuple #[.string (ofBs (getq (toBs s)).1), .int .i64 (getq (toBs s)).2.1, .int .i64 (getq (toBs s)).2.2]) := by
  rw [h, hx, hy]
set_option maxHeartbeats 2000000 in
set_option maxRecDepth 100000 in
theorem get_open (s : ByteArray) (w : World) (hs : s.size ≤ 1048576) (h0 : 0 < s.size) (h34 : s[0] = 34) :
    Calls Try.prog 31 #[.string s] w fun e w' => e = .returned (.tuple #[.string (ofBs (getq (toBs s)).1), .int .i64 (getq (toBs s)).2.1, .int .i64 (getq (toBs s)).2.2]) ∧ Below w.heap.size w w' := by
  have h1 := toList_beq_nil s h0
  have hx : ((s[0].toNat : Int) != 34) = false := by rw [h34]; rfl
  have H34 := Lib.hid h34
  clear h34
  have hnew := bld_new w
  go_enter Try.func31, Try.ntmps31
  go_wp2
  go_step3
  go_wp2
  go_step3
  go_wp2
  go_loopw [6, 7] (fun i n wr => ∃ (k : Nat) (acc : Bs), 1 ≤ k ∧ k ≤ s.size ∧ acc.length ≤ k ∧ i = .int .i64 k ∧ n = .int .i64 (-1) ∧ Bld w.heap.size w.heap.size acc wr ∧ Below w.heap.size w wr ∧ GetRel (toBs s) k acc) (fun i _ _ => s.size - (intOf i).toNat)
  case atStart => exact ⟨1, [], Nat.le_refl _, h0, Nat.zero_le _, rfl, rfl, hnew, (Below.refl _ _).alloc (Nat.le_refl _) _, getRel_start _⟩
  case round =>
    obtain ⟨k, acc, hk1, hk2, hk3, rfl, rfl, hb, hbel, hrel⟩ := hrel
    have hsz := hbel.size
    clear hnew hx
    by_cases hlt : k < s.size
    · by_cases hc : s[k] = 34
      · have hcx : ((s[k].toNat : Int) != 34) = false := by rw [hc]; rfl
        by_cases hd : ∃ h : k + 1 < s.size, s[k + 1] = 34
        · obtain ⟨hlt2, hd⟩ := hd
          have hr2 := getRel_twice s k acc hk1 hlt2 hc hd hrel
          have hdx : ((s[k + 1].toNat : Int) == 34) = true := by rw [hd]; rfl
          have hltx : (k : Int) + 1 < (s.size : Int) := by omega
          clear hc hd
          go_wp2_with fail
          refine (bld_writeByte _ _ acc 34 _ hb (by omega) hsz).mono ?_
          rintro e w1 ⟨rfl, hb1, hbel1, _⟩
          go_wp2
          go_roundw
          case rel => exact ⟨k + 2, acc ++ [34], by omega, by omega, by simp; omega, by go_num, rfl, hb1, hbel.trans hbel1, hr2⟩
          case measure => simp [intOf]; omega
        · have hd' : ∀ h : k + 1 < s.size, s[k + 1] ≠ 34 := fun h e => hd ⟨h, e⟩
          have hfin := getq_some s h0 H34.out acc k (getRel_end s k acc hk1 hlt hc hd' hrel)
          have Hfin := Lib.hid hfin
          by_cases hlt2 : k + 1 < s.size
          · have hdx : ((s[k + 1].toNat : Int) == 34) = false := u8_ne 34 (hd' hlt2)
            have hltx : (k : Int) + 1 < (s.size : Int) := by omega
            clear hc hd hd' hfin
            go_wp2_with fail
            refine (bld_string _ _ acc _ hb hsz).mono ?_
            rintro e w1 ⟨rfl, hb1, hbel1, _⟩
            go_wp2
            rw [Exit.noGoto_ret]
            go_ret3
            exact ⟨ret_getq s acc (k + 1) 0 _ _ Hfin.out (by omega) rfl, hbel.trans hbel1⟩
          · have hltx : ¬ (k : Int) + 1 < (s.size : Int) := by omega
            clear hc hd hd' hfin
            go_wp2_with fail
            refine (bld_string _ _ acc _ hb hsz).mono ?_
            rintro e w1 ⟨rfl, hb1, hbel1, _⟩
            go_wp2
            rw [Exit.noGoto_ret]
            go_ret3
            exact ⟨ret_getq s acc (k + 1) 0 _ _ Hfin.out (by omega) rfl, hbel.trans hbel1⟩
      · have hcx : ((s[k].toNat : Int) != 34) = true := u8_ne' 34 hc
        have hr2 := getRel_other s k acc hk1 hlt hc hrel
        clear hc
        go_wp2_with fail
        refine (bld_writeByte _ _ acc s[k] _ hb (by omega) hsz).mono ?_
        rintro e w1 ⟨rfl, hb1, hbel1, _⟩
        go_wp2
        go_roundw
        case rel => exact ⟨k + 1, acc ++ [s[k]], by omega, by omega, by simp; omega, by go_num, rfl, hb1, hbel.trans hbel1, hr2⟩
        case measure => simp [intOf]; omega
    · have Hfin := Lib.hid (getq_none s h0 H34.out (getRel_none s k acc hlt hrel))
      go_wp2
      rw [Exit.noGoto_ret]
      go_ret3
      exact ⟨ret_getq s [] 0 4 _ _ Hfin.out rfl rfl, hbel⟩

namespace Q
/-- quote.Get, as a plain function. -/
def quote_Get.f (a0 : ByteArray) : Option (ByteArray × Int × Int) :=
  if a0.size ≤ 1048576 then some (ofBs (getq (toBs a0)).1, ((getq (toBs a0)).2.1 : Int), ((getq (toBs a0)).2.2 : Int)) else none
theorem quote_Get.calls (a0 : ByteArray) (r1 : ByteArray) (r2 : Int) (r3 : Int) (w : World) (h : quote_Get.f a0 = some (r1, r2, r3)) :
    Calls Try.prog 31 #[.string a0] w fun e w' => e = .returned (.tuple #[.string r1, .int .i64 r2, .int .i64 r3]) ∧ Below w.heap.size w w' := by
  unfold quote_Get.f at h
  by_cases hs : a0.size ≤ 1048576
  · rw [if_pos hs] at h
    simp only [Option.some.injEq, Prod.mk.injEq] at h
    obtain ⟨rfl, rfl, rfl⟩ := h
    by_cases h0 : a0.size = 0
    · rw [getq_empty a0 h0]; exact get_empty a0 w h0
    · have h0' : 0 < a0.size := by omega
      by_cases h34 : a0[0] = 34
      · exact get_open a0 w hs h0' h34
      · rw [getq_other a0 h0' h34]; exact get_other a0 w h0' (u8_ne' 34 h34)
  · rw [if_neg hs] at h; cases h
end Q
end Go.Proofs.Ytggodagdfldndaa

/-! Contracts of Go functions of chapter 1 that are proved by hand, in the form that the printed walks take: quote.Get, quote.Quoted, strings.Count at one byte. -/
namespace Go.Proofs.Ytggodagdfldndaa.Q
open Go.RowKit Go.Shelf Go.Proofs.YtggodagdfldndaaW.PrintWords
/-- strings.Count at one byte. -/
def strings_Count.f (a0 a1 : ByteArray) : Option Int :=
  match toBs a1 with
  | [c] => some ((Lib.countByte (toBs a0) c : Nat) : Int)
  | _ => none
theorem strings_Count.calls (a0 a1 : ByteArray) (r : Int) (w : World) (h : strings_Count.f a0 a1 = some r) :
    Calls Try.prog 53 #[.string a0, .string a1] w fun e w' => e = .returned (.int .i64 r) ∧ Drawn0 w w' := by
  unfold strings_Count.f at h
  split at h
  · rename_i c hc
    obtain rfl := Option.some.inj h
    obtain rfl : a1 = ⟨#[c]⟩ := by rw [← ofBs_toBs a1, hc]; rfl
    refine (Try.strings_Count_one a0 c w).mono ?_
    rintro e w' ⟨rfl, rfl⟩
    exact ⟨rfl, Drawn0.refl _⟩
  · cases h
end Go.Proofs.Ytggodagdfldndaa.Q

/-! Contracts of Go's library that chapter 2 calls, in the form that the printed walks take: strings.Join. -/
namespace Go.Proofs.Ytggodagdfldndaa.Q
open Go.RowKit Go.Shelf Go.Proofs.YtggodagdfldndaaW.PrintWords
/-- What strings.Join gives. -/
def joined (l : List ByteArray) (sep : ByteArray) : Bs := Lib.join (l.map (fun x => x.data.toList)) sep.data.toList
def strings_Join.f (l0 : List ByteArray) (a1 : ByteArray) : Option ByteArray :=
  if l0.length ≤ 1048576 ∧ (joined l0 a1).length ≤ 140737488355328 then some (ofBs (joined l0 a1)) else none
theorem readsStr_cell {w : World} {A : Option Addr} {l : List ByteArray} (h : Kd.C Kd.string w A l.length l) (h0 : l ≠ []) :
    ∃ ad, A = some ad ∧ ∀ (j : Nat) x, l[j]? = some x → w.cell? (ad.add j) = some (.string x) := by
  have hlen : 0 < l.length := List.length_pos_iff.2 h0
  obtain ⟨ad, c, hA, _, _, _⟩ := Kd.C_get h ByteArray.empty 0 (by omega) (by omega)
  refine ⟨ad, hA, ?_⟩
  intro j x hx
  have hj : j < l.length := (List.getElem?_eq_some_iff.1 hx).1
  obtain ⟨ad2, c2, hA2, hc2, hK, hcell⟩ := Kd.C_get h ByteArray.empty (j : Int) (by omega) (by omega)
  rw [hA] at hA2
  obtain rfl := Option.some.inj hA2
  have hK' : c2 = [Value.string (l.getD ((j : Int)).toNat ByteArray.empty)] := hK
  have := hcell 0 (Value.string (l.getD ((j : Int)).toNat ByteArray.empty)) (by rw [hK']; rfl)
  simp only [Int.toNat_natCast] at this
  rw [List.getD_eq_getElem?_getD, hx] at this
  simpa [Kd.string, Kd.scalar] using this
theorem strings_Join.calls (A0 : Option Addr) (c0 : Nat) (l0 : List ByteArray) (a1 : ByteArray) (r : ByteArray) (w : World) (hr0 : Kd.C Kd.string w A0 l0.length l0) (hc0 : l0.length ≤ c0) (h : strings_Join.f l0 a1 = some r) :
    Calls Try.prog 77 #[.slice A0 l0.length c0, .string a1] w fun e w' => e = .returned (.string r) ∧ Below w.heap.size w w' := by
  unfold strings_Join.f at h
  split at h
  · rename_i hb
    obtain rfl := Option.some.inj h
    by_cases hn : l0 = []
    · subst hn
      refine (Try.strings_Join_none A0 c0 a1 w).mono ?_
      rintro e w' ⟨rfl, rfl⟩
      exact ⟨rfl, Below.refl _ _⟩
    · obtain ⟨ad, rfl, hcell⟩ := readsStr_cell hr0 hn
      have hlen : 0 < l0.length := List.length_pos_iff.2 hn
      have hc := hcell 0 l0[0] (by simp)
      obtain ⟨b, off, sp⟩ := ad
      have hh : ∃ o, w.heap[b]? = some o := by
        cases hh : w.heap[b]? with
        | none => simp [World.cell?, Addr.add, hh] at hc
        | some o => exact ⟨o, rfl⟩
      have hsp : sp = none := by
        cases sp with
        | none => rfl
        | some q =>
          exfalso
          obtain ⟨o, ho⟩ := hh
          cases o <;> simp [World.cell?, Addr.add, ho] at hc
      subst hsp
      have hlt : b < w.heap.size := by
        obtain ⟨o, ho⟩ := hh
        exact (Array.getElem?_eq_some_iff.1 ho).1
      exact Try.strings_Join b off c0 l0 a1 w (fun j x hx => by
        have := hcell j x hx
        unfold Addr.add at this
        split at this
        · rename_i hj; rw [hj]; exact this
        · exact this) hlt (by omega) hc0 hb.2
  · cases h
end Go.Proofs.Ytggodagdfldndaa.Q

namespace Go.Proofs.Ytggodagdfldndaa.Q
open Go.RowKit Go.Proofs.YtggodagdfldndaaW.PrintWords Go.Proofs.YtggodagdfldndaaW.PrintLast Go.Proofs.YtggodagdfldndaaW.PrintMore
attribute [local go_sem] max2_int min2_int max_two min_two max_three min_three max_four min_four   -- for this text's walks alone
set_option linter.unusedVariables false
set_option linter.unusedSimpArgs false



def errW : Option Int → Value
  | none => .nilIface
  | some c => .iface 0 (.int .i64 c)
theorem errW_none : errW none = .nilIface := rfl
theorem errW_some (c : Int) : errW (some c) = .iface 0 (.int .i64 c) := rfl

theorem info5 : (Try.prog.info? 5).map (fun i => (i.zero, i.size, i.bytes)) = some (some (.int .u8 0), 1, 1) := by kernel_rfl
-- the values' own types

end Go.Proofs.Ytggodagdfldndaa.Q
