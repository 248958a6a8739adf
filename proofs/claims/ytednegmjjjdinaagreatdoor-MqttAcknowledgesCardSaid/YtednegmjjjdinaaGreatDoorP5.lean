/- Texts of this claim's author, joined and pruned by a program of his (pack.py): Xa. -/
import Derived.Lib.SmallJoins
import Derived.Test.YtednegmjjjdinaaGreatDoorP0
import Derived.Test.YtednegmjjjdinaaGreatDoorP1
import Derived.Test.YtednegmjjjdinaaGreatDoorP2
import Derived.Test.YtednegmjjjdinaaGreatDoorP3
import Derived.Test.YtednegmjjjdinaaGreatDoorP4
namespace Go.Proofs.YtednegmjjjdinaaGreatDoor.Ext
open Go.RowKit Go.Proofs.YtednegmjjjdinaaGreatDoorW.PrintWords
def WI (w : World) : Prop := (Lib.Utf8Tabs 5 6 w ∧ ∃ m : Int, w.cell? ⟨2, 0, none⟩ = some (.int .i64 m)) ∧ Lib.TabIs Tryz.prog w "internal/strconv.uint64pow10" .u64 Lib.pow10Tab ∧ ∃ te pe, w.cell? ⟨0, 0, none⟩ = some (.iface te pe)
theorem WI.below {w w' : World} (h : WI w) (hb : Below w.heap.size w w') : WI w' := by
 obtain ⟨⟨⟨h1, h2⟩, m, h3⟩, h4, te, pe, h5⟩ := h
 have k : ∀ {a : Addr} {v : Value}, w.cell? a = some v → w'.cell? a = some v := fun {a v} hc =>
  (hb.cell (World.block_lt_of_cell? w a hc)).trans hc
 exact ⟨⟨⟨fun c hc => k (h1 c hc), fun i hi => ⟨k (h2 i hi).1, k (h2 i hi).2⟩⟩, m, k h3⟩, Go.Joins.tab_stays (g := 3) (by kernel_rfl) h4 hb (Nat.le_refl _), te, pe, k h5⟩
def strings_Split.f (a0 a1 : ByteArray) : Option (List ByteArray) :=
 if a1 = ⟨#[46]⟩ ∧ a0.size < 4294967281 then some (M.bas (M.words a0.data.toList)) else none
theorem reps_strings (ss : List ByteArray) (R : ByteArray → List Value → Prop) (hR : ∀ s, R s [.string s]) : Reps R 1 ss (ss.map Value.string) := by
 refine ⟨by simp, fun j p hj => ?_⟩
 have : ((ss.map Value.string).drop (j * 1)).take 1 = [.string p] := by
  rw [Nat.mul_one, List.take_one, List.head?_drop, List.getElem?_map, hj]
  rfl
 rw [this]
 exact hR p
theorem own_strings (w : World) (ss : List ByteArray) (n : Nat) (hn : n = ss.length) (hm : n ≤ maxLen) :
  Kd.R Kd.string 9 (w.alloc (.cells (ss.map Value.string).toArray 9)) w.heap.size (fun _ => True) (.slice (some ⟨w.heap.size, 0, none⟩) n n) ss := by
 subst hn
 refine ⟨fun _ _ => trivial, ss.map Value.string, ⟨by simp [Kd.string, Kd.scalar], .inr ⟨w.heap.size, ss.length, (ss.map Value.string).toArray, rfl, Nat.le_refl _, heap_alloc_new _ _, Nat.le_refl _, hm, by simp [Kd.string, Kd.scalar], by simp [Kd.string, Kd.scalar]; exact List.take_of_length_le (by simp)⟩⟩, ?_⟩
 exact reps_strings ss _ (fun s => rfl)
theorem strings_Split.calls (a0 a1 : ByteArray) (r : List ByteArray) (w : World) (hG : WI w) (h : strings_Split.f a0 a1 = some r) :
  Calls Tryz.prog 107 #[.string a0, .string a1] w fun e w' => ∃ v0_ : Value, e = .returned (v0_) ∧ Kd.R Kd.string 9 w' w.heap.size (fun _ => True) v0_ r ∧ Below w.heap.size w w' := by
 unfold strings_Split.f at h
 split at h
 case isFalse => cases h
 case isTrue hc =>
  obtain ⟨rfl, hs⟩ := hc
  obtain rfl := Option.some.inj h
  obtain ⟨⟨_, m, hm⟩, _⟩ := hG
  refine (Tryz.strings_Split a0 ⟨#[46]⟩ m w hs hm (by decide)).mono fun e w' ⟨he, hw⟩ => ?_
  rw [M.splitB_words, M.countB_words] at *
  have hl : (M.words a0.data.toList).length ≤ a0.size + 1 := M.words_le _
  subst hw
  refine ⟨_, he, ?_, (Below.refl _ _).alloc (Nat.le_refl _) _⟩
  exact own_strings w _ _ (M.bas_length _).symm (by unfold maxLen; omega)
def ascii (l : List UInt8) : Bool := l.all fun b => decide (b.toNat < 128)
def strings_Trim.f (a0 a1 : ByteArray) : Option ByteArray :=
 if a0.size ≤ 9223372036854775807 ∧ a1.size < 4294967281 ∧ ascii a1.data.toList = true then some ⟨(Lib.trimS a0.data.toList a1.data.toList).toArray⟩ else none
theorem strings_Trim.calls (a0 a1 : ByteArray) (r : ByteArray) (w : World) (_hG : WI w) (h : strings_Trim.f a0 a1 = some r) :
  Calls Tryz.prog 161 #[.string a0, .string a1] w fun e w' => e = .returned (.string r) ∧ Below w.heap.size w w' := by
 clear _hG
 unfold strings_Trim.f at h
 split at h
 case isFalse => cases h
 case isTrue hc =>
  obtain ⟨h1, h2, h3⟩ := hc
  obtain rfl := Option.some.inj h
  exact Any.strings_Trim_laid Tryz.lays160 (by kernel_rfl) a0 a1 w h1 h2 (ascii_of_all h3)
end Go.Proofs.YtednegmjjjdinaaGreatDoor.Ext
