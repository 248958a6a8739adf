/- Texts of this claim's author, joined and pruned by a program of his (pack.py): R. -/
import Derived.Test.YtednegmjjjdinaaGreatDoorRows
import Derived.Deep.DeepHandedRow
import Derived.Lib.LaidU8
import Derived.LaidMore
import Derived.Test.YtednegmjjjdinaaGreatDoorP0
import Derived.Test.YtednegmjjjdinaaGreatDoorP1
import Derived.Test.YtednegmjjjdinaaGreatDoorP2
import Derived.Test.YtednegmjjjdinaaGreatDoorP3
import Derived.Test.YtednegmjjjdinaaGreatDoorP4
import Derived.Test.YtednegmjjjdinaaGreatDoorP5
set_option maxRecDepth 100000
namespace Go.Proofs.YtednegmjjjdinaaGreatDoor.Row
open Go.ChangeShapes Go.WideShapes Go.ChangeAt Go.RowKit Go.Lib
open Go.ChangeMaps (open_string shut_string)
theorem own : ownKnob Tryz.prog.godebug = none := by kernel_rfl
theorem first_eq : Go.Pinned.utf8First = firstData := by kernel_rfl
theorem accept_eq : (Rows.laid_unicode_utf8_acceptRanges : DataW Unit) = acceptData := by kernel_rfl
theorem pow_eq : (Rows.laid_internal_strconv_uint64pow10 : DataW Unit) = tabData .u64 pow10Tab := by kernel_rfl
theorem u8x : U8Extra Tryz.prog Tryz.lays260_ren where
 n3 := by kernel_rfl
 n4 := by kernel_rfl
 y3 := by kernel_rfl
 y4 := by kernel_rfl
 c5 := by kernel_rfl
 c119 := by kernel_rfl
 c138 := by kernel_rfl
def laidList : List (String × DataW Unit) := [("math/bits.deBruijn32tab", Rows.laid_math_bits_deBruijn32tab), ("math/bits.deBruijn64tab", Rows.laid_math_bits_deBruijn64tab), ("internal/strconv.uint64pow10", Rows.laid_internal_strconv_uint64pow10), ("unicode/utf8.acceptRanges", Rows.laid_unicode_utf8_acceptRanges), ("strconv.ErrRange", Rows.laid_strconv_ErrRange), ("strconv.ErrSyntax", Rows.laid_strconv_ErrSyntax), ("unicode/utf8.first", Rows.laid_unicode_utf8_first)]
theorem tab_reads {W : World} {name : String} {k : IntKind} {zs : List Int} {g : Nat} {t e : TypeId} {n : Nat} (hg : Tryz.prog.globalNamed name = some g) (hty : (Tryz.prog.globals[g]?).map (·.type) = some t) (ht : Tryz.prog.underlying t = some (.array n e)) (he : Tryz.prog.underlying e = some (.int k)) (hce : Tryz.prog.cellsOf e = 1) (hct : Tryz.prog.cellsOf t = n)
  (h : VarReads Tryz.prog W name (tabData k zs)) : TabIs Tryz.prog W name k zs := by
 obtain ⟨g', t', cs, fuel, p, hg', ht', hvar, hd⟩ := h
 obtain rfl := Option.some.inj (hg.symm.trans hg')
 obtain rfl := Option.some.inj (hty.symm.trans ht')
 unfold TabIs
 rw [hvar, ← cells_of_tab ht he hce hct hd]
theorem err_reads {W : World} {name nm : String} {g : Nat} {t : TypeId} {ms : Array (String × TypeId)} {d : DataW Unit} (hg : Tryz.prog.globalNamed name = some g) (hty : (Tryz.prog.globals[g]?).map (·.type) = some t) (ht : Tryz.prog.underlying t = some (.interface ms))
  (h : VarReads Tryz.prog W name (.iface nm d)) : ∃ te pe, W.cell? ⟨g, 0, none⟩ = some (.iface te pe) := by
 obtain ⟨g', t', cs, fuel, p, hg', ht', hvar, hd⟩ := h
 obtain rfl := Option.some.inj (hg.symm.trans hg')
 obtain rfl := Option.some.inj (hty.symm.trans ht')
 have hc := World.var?_cell hg hvar 0
 have : ∃ u v, cs.toList = [.iface u v] := by
  cases fuel with
  | zero => simp [DataW.trod] at hd
  | succ n =>
   unfold DataW.trod at hd
   rw [ht] at hd
   split at hd <;> simp_all
 obtain ⟨u, v, e⟩ := this
 refine ⟨u, v, hc.trans ?_⟩
 rw [← Array.getElem?_toList, e]
 rfl
theorem wi_of {W : World} (h : laidMetH Tryz.prog laidList W) (hsh : W.ShapedOpen Tryz.prog) : Ext.WI W := by
 rw [MakeChecks.laidMetH_plain _ _ _ (by kernel_rfl)] at h
 have h4 := Lib.laidMet.reads h (n := "unicode/utf8.acceptRanges") (d := Rows.laid_unicode_utf8_acceptRanges) (by simp [laidList])
 have h3 := Lib.laidMet.reads h (n := "unicode/utf8.first") (d := Rows.laid_unicode_utf8_first) (by simp [laidList])
 have h5 := Lib.laidMet.reads h (n := "internal/strconv.uint64pow10") (d := Rows.laid_internal_strconv_uint64pow10) (by simp [laidList])
 have h6 := Lib.laidMet.reads h (n := "strconv.ErrSyntax") (d := Rows.laid_strconv_ErrSyntax) (by simp [laidList])
 rw [accept_eq] at h4
 rw [pow_eq] at h5
 rw [show Rows.laid_unicode_utf8_first = firstData from first_eq] at h3
 exact ⟨⟨utf8Tabs_of_reads Tryz.lays260 u8x h3 h4, Tryz.laysM146.s1_3 W hsh⟩, tab_reads (g := 3) (t := 301) (e := 162) (n := 20) (by kernel_rfl) (by kernel_rfl) Tryz.underlying301 Tryz.underlying162 (by kernel_rfl) (by kernel_rfl) h5, err_reads (g := 0) (t := 111) (by kernel_rfl) (by kernel_rfl) Tryz.underlying111 h6⟩
def ints : DataW Unit → Array Value
 | .agg ds => (ds.map fun | .lit (.int k n) => Value.int k n | _ => .bool false).toArray
 | _ => #[]
def lay (v : Array Value) : Obj → Obj
 | .cells _ t frozen => .cells v t frozen
 | o => o
noncomputable def laidWorld (os : Os) : World :=
 let w := World.holding Tryz.prog os ⟨#[], #[], []⟩
 let n := w.heap.size
 { w with heap := (((((((((w.heap.modify 0 (lay #[.iface 307 (.pointer (some ⟨n, 0, none⟩))])).modify 1 (lay #[.iface 307 (.pointer (some ⟨n + 1, 0, none⟩))])).modify 3 (lay (ints Rows.laid_internal_strconv_uint64pow10))).modify 5 (lay ((firstTab.map fun n => Value.int .u8 n).toArray))).modify 6 (lay (((List.range 16).flatMap fun i => [Value.int .u8 (accLo i), Value.int .u8 (accHi i)]).toArray))).modify 7 (lay (ints Rows.laid_math_bits_deBruijn32tab))).modify 8 (lay (ints Rows.laid_math_bits_deBruijn64tab))).push (.cells #[.string ⟨#[105, 110, 118, 97, 108, 105, 100, 32, 115, 121, 110, 116, 97, 120]⟩] 309)).push (.cells #[.string ⟨#[118, 97, 108, 117, 101, 32, 111, 117, 116, 32, 111, 102, 32, 114, 97, 110, 103, 101]⟩] 309)) }
theorem laid_met (os : Os) (args : Array Value) : laidMet Tryz.prog laidList ((laidWorld os).forCall (fun _ _ => 0) ⟨#[], args, []⟩).memory :=
 laidMet_of_run' 8 (by kernel_rfl) (by kernel_rfl)
end Go.Proofs.YtednegmjjjdinaaGreatDoor.Row
