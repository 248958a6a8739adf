/- What all rows of this seat share: a world for the witness, in which the library's two tables lie as laid; what the rows' list and the world's shape give: the premise of the contracts. -/
import Derived.Test.YtednegmjjjdinaaDoorRows
import Derived.Test.YtednegmjjjdinaaDoorXa
import Derived.ProofKit
import Derived.Deep.DeepHandedRow
import Derived.Lib.LaidU8
import Derived.LaidMore
namespace Go.Proofs.YtednegmjjjdinaaDoor.Row
open Go.ChangeShapes Go.WideShapes Go.ChangeAt Go.RowKit Go.Lib
open Go.ChangeMaps (open_string shut_string)

theorem own : ownKnob Tryd.prog.godebug = none := by kernel_rfl
theorem first_eq : Go.Pinned.utf8First = firstData := by kernel_rfl
theorem accept_eq : (Rows.laid_unicode_utf8_acceptRanges : DataW Unit) = acceptData := by kernel_rfl
theorem u8x : U8Extra Tryd.prog Tryd.lays260_ren where
  n3 := by kernel_rfl
  n4 := by kernel_rfl
  y3 := by kernel_rfl
  y4 := by kernel_rfl
  c5 := by kernel_rfl
  c119 := by kernel_rfl
  c138 := by kernel_rfl
def laidList : List (String × DataW Unit) := [("unicode/utf8.acceptRanges", Rows.laid_unicode_utf8_acceptRanges), ("unicode/utf8.first", Rows.laid_unicode_utf8_first)]
theorem wi_of {W : World} (h : laidMetH Tryd.prog laidList W) (hsh : W.ShapedOpen Tryd.prog) : Ext.WI W := by
  rw [MakeChecks.laidMetH_plain _ _ _ (by kernel_rfl)] at h
  have h4 := Lib.laidMet.reads h (n := "unicode/utf8.acceptRanges") (d := Rows.laid_unicode_utf8_acceptRanges) (by simp [laidList])
  have h3 := Lib.laidMet.reads h (n := "unicode/utf8.first") (d := Rows.laid_unicode_utf8_first) (by simp [laidList])
  rw [accept_eq] at h4
  rw [show Rows.laid_unicode_utf8_first = firstData from first_eq] at h3
  exact ⟨utf8Tabs_of_reads Tryd.lays260 u8x h3 h4, Tryd.laysM146.s1_3 W hsh⟩

/-- A world for the witness: the settled one, the two tables (blocks 1 and 2) holding what their initialisers lay. -/
def lay1 : Obj → Obj
  | .cells _ t frozen => .cells ((firstTab.map fun n => Value.int .u8 n).toArray) t frozen
  | o => o
def lay2 : Obj → Obj
  | .cells _ t frozen => .cells (((List.range 16).flatMap fun i => [Value.int .u8 (accLo i), Value.int .u8 (accHi i)]).toArray) t frozen
  | o => o
noncomputable def laidWorld (os : Os) : World :=
  { World.holding Tryd.prog os ⟨#[], #[], []⟩ with heap := ((World.holding Tryd.prog os ⟨#[], #[], []⟩).heap.modify 1 lay1).modify 2 lay2 }
set_option maxRecDepth 100000 in
theorem laid_met (os : Os) (args : Array Value) : laidMet Tryd.prog laidList ((laidWorld os).forCall (fun _ _ => 0) ⟨#[], args, []⟩).memory :=
  laidMet_of_run' 8 (by kernel_rfl) (by kernel_rfl)
end Go.Proofs.YtednegmjjjdinaaDoor.Row
