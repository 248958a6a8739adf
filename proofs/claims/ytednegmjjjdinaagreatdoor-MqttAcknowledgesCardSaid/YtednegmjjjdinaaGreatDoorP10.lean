/- Texts of this claim's author, joined and pruned by a program of his (pack.py): QW0, QW1, Xb, QE0, QE1. -/
import Derived.Test.YtednegmjjjdinaaGreatDoorP0
import Derived.Test.YtednegmjjjdinaaGreatDoorP1
import Derived.Test.YtednegmjjjdinaaGreatDoorP2
import Derived.Test.YtednegmjjjdinaaGreatDoorP3
import Derived.Test.YtednegmjjjdinaaGreatDoorP4
import Derived.Test.YtednegmjjjdinaaGreatDoorP5
import Derived.Test.YtednegmjjjdinaaGreatDoorP7
set_option maxRecDepth 100000
set_option maxHeartbeats 4000000
open Go.Proofs.YtednegmjjjdinaaGreatDoorW.PrintWords.Aside0 renaming mk → Amk
namespace Go.Proofs.YtednegmjjjdinaaGreatDoor.QW
open Go.RowKit Go.Proofs.YtednegmjjjdinaaGreatDoor.Ext Go.Proofs.YtednegmjjjdinaaGreatDoorW.PrintWords Go.Proofs.YtednegmjjjdinaaGreatDoorW.PrintLast Go.Proofs.YtednegmjjjdinaaGreatDoorW.PrintMore
attribute [local go_sem] max2_int min2_int max_two min_two max_three min_three max_four min_four
set_option linter.unusedVariables false
set_option linter.unusedSimpArgs false
def errW : Option Int → Value
 | none => .nilIface
 | some c => .iface 0 (.int .i64 c)
theorem errW_none : errW none = .nilIface := rfl
theorem errW_some (c : Int) : errW (some c) = .iface 0 (.int .i64 c) := rfl
end Go.Proofs.YtednegmjjjdinaaGreatDoor.QW
namespace Go.Proofs.YtednegmjjjdinaaGreatDoor.QW
open Go.RowKit Go.Proofs.YtednegmjjjdinaaGreatDoor.Ext Go.Proofs.YtednegmjjjdinaaGreatDoorW.PrintWords Go.Proofs.YtednegmjjjdinaaGreatDoorW.PrintLast Go.Proofs.YtednegmjjjdinaaGreatDoorW.PrintMore
attribute [local go_sem] max2_int min2_int max_two min_two max_three min_three max_four min_four
set_option linter.unusedVariables false
set_option linter.unusedSimpArgs false
def topic_word.f (a0 : ByteArray) : Option (Bool) := if a0.toList = ([] : List UInt8) then (some false) else (if (a0.size : Int) ≤ 16 then ((strings_Trim.f a0 (⟨#[97, 98, 99, 100, 101, 102, 103, 104, 105, 106, 107, 108, 109, 110, 111, 112, 113, 114, 115, 116, 117, 118, 119, 120, 121, 122, 48, 49, 50, 51, 52, 53, 54, 55, 56, 57, 45, 95]⟩ : ByteArray)).bind fun t101 => (some (t101.toList == ([] : List UInt8)))) else (some false))
theorem topic_word.calls (a0 : ByteArray) (r : Bool) (w : World) (hG : WI w) (h : topic_word.f a0 = some r) :
  Calls Tryz.prog 108 #[.string a0] w fun e w' => e = .returned (.bool r) ∧ Below w.heap.size w w' := by
 have HB := Amk (Below.refl w.heap.size w)
 have HG := Amk hG
 clear hG
 have H : (if a0.toList = ([] : List UInt8) then (some false) else (if (a0.size : Int) ≤ 16 then ((strings_Trim.f a0 (⟨#[97, 98, 99, 100, 101, 102, 103, 104, 105, 106, 107, 108, 109, 110, 111, 112, 113, 114, 115, 116, 117, 118, 119, 120, 121, 122, 48, 49, 50, 51, 52, 53, 54, 55, 56, 57, 45, 95]⟩ : ByteArray)).bind fun t101 => (some (t101.toList == ([] : List UInt8)))) else (some false))) = some r := h
 clear h
 by_cases c2 : a0.toList = ([] : List UInt8)
 ·
  rw [if_pos c2] at H
  have c2b0 : (a0.toList == ([] : List UInt8)) = true := beq_iff_eq.mpr c2
  have c2b1 : (a0.toList != ([] : List UInt8)) = false := bne_eq_false_iff_eq.mpr c2
  clear c2
  obtain rfl := Option.some.inj H
  go_enter Tryz.func108, Tryz.ntmps108
  go_wp2
  go_ret
  exact ⟨by first | rfl | (simp [errW_none, errW_some] <;> rfl) | (simp [*, errW_none, errW_some] <;> rfl), by repeat (first | (with_reducible first | exact HB.out | apply below_alloc | apply pw_below_drewN | apply below_drew1) | exact HB.out)⟩
 ·
  rw [if_neg c2] at H
  have c2b0 : (a0.toList == ([] : List UInt8)) = false := beq_eq_false_iff_ne.mpr c2
  have c2b1 : (a0.toList != ([] : List UInt8)) = true := bne_iff_ne.mpr c2
  by_cases c3 : (a0.size : Int) ≤ 16
  ·
   rw [if_pos c3] at H
   have c3b0 : decide ((a0.size : Int) ≤ 16) = true := decide_eq_true c3
   have c3b1 : decide (a0.size ≤ 16) = true := decide_eq_true (by omega)
   clear c3
   replace H := Option.bind_eq_some_iff.mp H
   obtain ⟨t101, A40, H⟩ := H
   replace H : (some (t101.toList == ([] : List UInt8))) = some r := H
   have A4 := Amk A40
   clear A40
   obtain rfl := Option.some.inj H
   go_enter Tryz.func108, Tryz.ntmps108
   go_wp2_with (first | (go_at_call 161; (with_reducible refine (strings_Trim.calls a0 (⟨#[97, 98, 99, 100, 101, 102, 103, 104, 105, 106, 107, 108, 109, 110, 111, 112, 113, 114, 115, 116, 117, 118, 119, 120, 121, 122, 48, 49, 50, 51, 52, 53, 54, 55, 56, 57, 45, 95]⟩ : ByteArray) t101 _ ?side1 A4.out).mono ?_); (case side1 => exact WI.below HG.out (by repeat (first | (with_reducible first | exact HB.out | apply below_alloc | apply pw_below_drewN | apply below_drew1) | exact HB.out))); rintro e w5 ⟨rfl, hb⟩; have n0_ := Amk (below_step (by repeat (first | (with_reducible first | exact HB.out | apply below_alloc | apply pw_below_drewN | apply below_drew1) | exact HB.out)) hb); clear HB; have HB := n0_; clear n0_; (try clear hb); (try clear hb2); (try clear hk); (try clear hi)))
   go_ret
   exact ⟨by first | rfl | (simp [errW_none, errW_some] <;> rfl) | (simp [*, errW_none, errW_some] <;> rfl), by repeat (first | (with_reducible first | exact HB.out | apply below_alloc | apply pw_below_drewN | apply below_drew1) | exact HB.out)⟩
  ·
   rw [if_neg c3] at H
   have c3b0 : decide ((a0.size : Int) ≤ 16) = false := decide_eq_false c3
   have c3b1 : decide (a0.size ≤ 16) = false := decide_eq_false (by omega)
   clear c3
   obtain rfl := Option.some.inj H
   go_enter Tryz.func108, Tryz.ntmps108
   go_wp2
   go_ret
   exact ⟨by first | rfl | (simp [errW_none, errW_some] <;> rfl) | (simp [*, errW_none, errW_some] <;> rfl), by repeat (first | (with_reducible first | exact HB.out | apply below_alloc | apply pw_below_drewN | apply below_drew1) | exact HB.out)⟩
end Go.Proofs.YtednegmjjjdinaaGreatDoor.QW
namespace Go.Proofs.YtednegmjjjdinaaGreatDoor.Ext
open Go.RowKit Go.Proofs.YtednegmjjjdinaaGreatDoorW.PrintWords Go.Proofs.YtednegmjjjdinaaGreatDoorW.PrintLast Go.Proofs.YtednegmjjjdinaaGreatDoorW.PrintMore Go.Proofs.YtednegmjjjdinaaGreatDoor.QW
theorem word_is (s : ByteArray) : topic_word.f s = some (M.isName s.data.toList) := by
 unfold topic_word.f M.isName
 rw [Lib.toList_data]
 by_cases h0 : s.data.toList = []
 ·
  rw [if_pos h0, h0]; rfl
 rw [if_neg h0]
 have h0' : s.data.toList.isEmpty = false := by cases h : s.data.toList with
  | nil => exact absurd h h0
  | cons _ _ => rfl
 by_cases h1 : (s.size : Int) ≤ 16
 ·
  rw [if_pos h1]
  have h2 : s.data.toList.length ≤ 16 := by rw [← Lib.size_eq]; omega
  unfold strings_Trim.f
  rw [if_pos ⟨by omega, by decide, by decide⟩]
  simp only [Option.bind_some, h0', h2, decide_true, Bool.not_false, Bool.true_and]
  congr 1
  rw [Bool.eq_iff_iff, beq_iff_eq, Lib.toList_data]
  simp only []
  rw [M.trimS_nil]
  simp only [List.all_eq_true]
  exact ⟨fun h x hx => (M.letter_iff x).symm.trans (h x hx), fun h x hx => (M.letter_iff x).trans (h x hx)⟩
 ·
  rw [if_neg h1]
  have h2 : ¬ s.data.toList.length ≤ 16 := by rw [← Lib.size_eq]; omega
  rw [show decide (s.data.toList.length ≤ 16) = false from decide_eq_false h2]
  simp
theorem good1 (s : ByteArray) (w : World) (hG : WI w) :
  Calls Tryz.prog 113 #[.string s] w fun e w' => e = .returned (.bool (!M.isName s.data.toList)) ∧ Below w.heap.size w w' := by
 have HW := Amk (topic_word.calls s _ w hG (word_is s))
 clear hG
 go_enter Tryz.func113, Tryz.ntmps113
 go_wp2_with (go_at_call 108; refine HW.out.mono ?_; rintro e w' ⟨rfl, hb⟩)
 go_ret
 exact ⟨rfl, hb⟩
theorem rdOf_at (ss : List ByteArray) (j : Nat) (hj : j < ss.length) : rdOf ByteArray.empty ss (j : Int) = ss[j] := by
 simp [rdOf, hj]
theorem take_all (ss : List ByteArray) (j : Nat) (hj : j < ss.length) {P : ByteArray → Prop} (h : ∀ s ∈ ss.take j, P s) (hp : P (rdOf ByteArray.empty ss (j : Int))) : ∀ s ∈ ss.take (j + 1), P s := by
 intro s hs
 rw [List.take_succ_eq_append_getElem hj, List.mem_append] at hs
 rcases hs with hs | hs
 ·
  exact h s hs
 ·
  rw [List.mem_singleton.1 hs, ← rdOf_at ss j hj]; exact hp
theorem mem_rdOf (ss : List ByteArray) (j : Nat) (hj : j < ss.length) : rdOf ByteArray.empty ss (j : Int) ∈ ss := by
 rw [rdOf_at ss j hj]; exact List.getElem_mem hj
def IdxPost (ss : List ByteArray) (w : World) (e : Ending) (w' : World) : Prop :=
 ∃ i : Int, e = .returned (.int .i64 i) ∧ Aside0 (0 ≤ i ↔ ∃ s ∈ ss, M.isName s.data.toList = false) ∧ Below w.heap.size w w'
theorem indexFunc (ss : List ByteArray) (A : Option Addr) (c : Nat) (w : World) (hG : WI w) (hr : Kd.C Kd.string w A ss.length ss) (hlen : ss.length ≤ 4611686018427387904) :
  Calls Tryz.prog 190 #[.slice A ss.length c, .func (.func 113) #[] #[]] w (IdxPost ss w) := by
 have HG := Amk hG
 have HR := Amk hr
 clear hG hr
 go_enter Tryz.func190, Tryz.ntmps190
 go_wp2
 go_loopg [8] ss.length (fun kq v8 w' => ∃ j : Nat, v8 = .int .i64 j ∧ j + kq = ss.length ∧ Aside0 (∀ s ∈ ss.take j, M.isName s.data.toList = true) ∧ Aside0 (Below w.heap.size w w'))
 case atStart => exact ⟨0, rfl, by omega, ⟨by simp⟩, ⟨Below.refl _ _⟩⟩
 case round =>
  obtain ⟨j, rfl, hj, HN, HB⟩ := hrel
  cases gk with
  | zero =>
   have hge : decide ((j : Int) < (ss.length : Int)) = false := decide_eq_false (by omega)
   go_wp2
   go_ret
   exact ⟨-1, rfl, ⟨⟨fun h => absurd h (by decide), fun ⟨s, hs, h⟩ => by
    have := HN.out s (by rw [List.take_of_length_le (by omega)]; exact hs)
    rw [this] at h; cases h⟩⟩, HB.out⟩
  | succ g =>
   have hlt : decide ((j : Int) < (ss.length : Int)) = true := decide_eq_true (by omega)
   obtain ⟨ad, rfl, hcell⟩ := Kd.at_string (Kd.C_below HR.out HB.out) (j : Int) (by omega) (by omega)
   simp only [Int.toNat_natCast] at hcell
   have HC : Aside0 (∀ W, Below w.heap.size w W → Calls Tryz.prog 113 #[.string (rdOf ByteArray.empty ss j)] W fun e w' => e = .returned (.bool (!M.isName (rdOf ByteArray.empty ss j).data.toList)) ∧ Below W.heap.size W w') :=
    ⟨fun W hW => good1 (rdOf ByteArray.empty ss j) W (WI.below HG.out hW)⟩
   by_cases hb : M.isName (rdOf ByteArray.empty ss j).data.toList = true
   ·
    have HB1 := Amk hb
    rw [hb] at HC
    clear hb
    go_wp2_with (go_at_call 113; refine (HC.out _ HB.out).mono ?_; rintro e w2 ⟨rfl, hb2⟩)
    go_roundg g
    case rel => exact ⟨j + 1, by go_num, by omega, ⟨take_all ss j (by omega) HN.out HB1.out⟩, ⟨below_then HB.out HB.out.size hb2⟩⟩
    case measure => omega
   ·
    have HB1 := Amk (Bool.eq_false_iff.2 hb)
    rw [HB1.out] at HC
    clear hb
    go_wp2_with (go_at_call 113; refine (HC.out _ HB.out).mono ?_; rintro e w2 ⟨rfl, hb2⟩)
    go_ret
    exact ⟨j, rfl, ⟨⟨fun _ => ⟨_, mem_rdOf ss j (by omega), HB1.out⟩, fun _ => by omega⟩⟩, below_then HB.out HB.out.size hb2⟩
def anyBad (ss : List ByteArray) : Bool := ss.any fun s => !M.isName s.data.toList
theorem containsFunc (ss : List ByteArray) (A : Option Addr) (c : Nat) (w : World) (hG : WI w) (hr : Kd.C Kd.string w A ss.length ss) (hlen : ss.length ≤ 4611686018427387904) :
  Calls Tryz.prog 112 #[.slice A ss.length c, .func (.func 113) #[] #[]] w fun e w' => e = .returned (.bool (anyBad ss)) ∧ Below w.heap.size w w' := by
 have HC := Amk (indexFunc ss A c w hG hr hlen)
 clear hG hr
 go_enter Tryz.func112, Tryz.ntmps112
 go_wp2_with (go_at_call 190; refine HC.out.mono ?_; rintro e w2 ⟨i, rfl, HI, hb⟩)
 go_ret
 refine ⟨?_, hb⟩
 have : decide (0 ≤ i) = anyBad ss := by
  rw [Bool.eq_iff_iff, decide_eq_true_iff, HI.out]
  simp [anyBad]
 rw [← this]
 rfl
def goodB (l : List UInt8) : Bool := decide (l.length ≤ 64) && (decide ((M.words l).length ≤ 8) && (M.words l).all M.isName)
theorem anyBad_bas (ls : List (List UInt8)) : anyBad (M.bas ls) = !ls.all M.isName := by
 simp only [anyBad, M.bas]
 induction ls with
 | nil => rfl
 | cons l ls ih => simp only [List.map_cons, List.any_cons, List.all_cons, ih, Bool.not_and]
def topic_Good.f (a0 : ByteArray) : Option Bool := if a0.size < 4294967281 then some (goodB a0.data.toList) else none
theorem topic_Good.calls (a0 : ByteArray) (r : Bool) (w : World) (hG : WI w) (h : topic_Good.f a0 = some r) :
  Calls Tryz.prog 60 #[.string a0] w fun e w' => e = .returned (.bool r) ∧ Below w.heap.size w w' := by
 unfold topic_Good.f at h
 split at h
 case isFalse => cases h
 case isTrue hs =>
 obtain rfl := Option.some.inj h
 have HS := Amk (strings_Split.calls a0 ⟨#[46]⟩ (M.bas (M.words a0.data.toList)) w hG (by unfold strings_Split.f; rw [if_pos ⟨rfl, hs⟩]))
 have HG := Amk hG
 have HL : Aside0 ((M.bas (M.words a0.data.toList)).length ≤ 4294967282) := ⟨by have := M.words_le a0; rw [M.bas_length]; omega⟩
 have HGood : Aside0 (goodB a0.data.toList = (decide (a0.size ≤ 64) && (decide ((M.bas (M.words a0.data.toList)).length ≤ 8) && !anyBad (M.bas (M.words a0.data.toList))))) := ⟨by
  unfold goodB; rw [anyBad_bas, Bool.not_not, M.bas_length, ← Lib.size_eq]⟩
 rw [HGood.out]
 clear hG h HGood
 generalize M.bas (M.words a0.data.toList) = ss at *
 by_cases h64 : a0.size ≤ 64
 ·
  by_cases h8 : ss.length ≤ 8
  ·
   rw [decide_eq_true h64, decide_eq_true h8, Bool.true_and, Bool.true_and]
   have b1 : decide ((a0.size : Int) ≤ 64) = true := decide_eq_true (by omega)
   have b2 : decide ((ss.length : Int) ≤ 8) = true := decide_eq_true (by omega)
   go_enter Tryz.func60, Tryz.ntmps60
   go_wp2_with (go_at_call 107; refine HS.out.mono ?_; rintro e w2 ⟨v, rfl, hR, hb⟩; (have HR := Amk hR; have HB := Amk hb; clear hR hb); obtain ⟨A, c, rfl⟩ := Kd.R_slice HR.out)
   have HC := Amk (containsFunc ss A c w2 (WI.below HG.out HB.out) (Kd.R_reads' HR.out).2.2 (by have := HL.out; omega))
   go_wp2_with (go_at_call 112; refine HC.out.mono ?_; rintro e w3 ⟨rfl, hb3⟩)
   go_ret
   exact ⟨rfl, below_then HB.out HB.out.size hb3⟩
  ·
   rw [decide_eq_true h64, decide_eq_false h8, Bool.true_and, Bool.false_and]
   have b1 : decide ((a0.size : Int) ≤ 64) = true := decide_eq_true (by omega)
   have b2 : decide ((ss.length : Int) ≤ 8) = false := decide_eq_false (by omega)
   go_enter Tryz.func60, Tryz.ntmps60
   go_wp2_with (go_at_call 107; refine HS.out.mono ?_; rintro e w2 ⟨v, rfl, hR, hb⟩; (have HR := Amk hR; have HB := Amk hb; clear hR hb); obtain ⟨A, c, rfl⟩ := Kd.R_slice HR.out)
   go_ret
   exact ⟨rfl, HB.out⟩
 ·
  rw [decide_eq_false h64, Bool.false_and]
  have b1 : decide ((a0.size : Int) ≤ 64) = false := decide_eq_false (by omega)
  go_enter Tryz.func60, Tryz.ntmps60
  go_wp2_with (go_at_call 107; refine HS.out.mono ?_; rintro e w2 ⟨v, rfl, hR, hb⟩; (have HR := Amk hR; have HB := Amk hb; clear hR hb); obtain ⟨A, c, rfl⟩ := Kd.R_slice HR.out)
  go_ret
  exact ⟨rfl, HB.out⟩
end Go.Proofs.YtednegmjjjdinaaGreatDoor.Ext
namespace Go.Proofs.YtednegmjjjdinaaGreatDoor.QE
open Go.RowKit Go.Proofs.YtednegmjjjdinaaGreatDoor.Ext Go.Proofs.YtednegmjjjdinaaGreatDoorW.PrintWords Go.Proofs.YtednegmjjjdinaaGreatDoorW.PrintLast Go.Proofs.YtednegmjjjdinaaGreatDoorW.PrintMore
attribute [local go_sem] max2_int min2_int max_two min_two max_three min_three max_four min_four
set_option linter.unusedVariables false
set_option linter.unusedSimpArgs false
def errW : Option Int → Value
 | none => .nilIface
 | some c => .iface 0 (.int .i64 c)
theorem errW_none : errW none = .nilIface := rfl
theorem errW_some (c : Int) : errW (some c) = .iface 0 (.int .i64 c) := rfl
end Go.Proofs.YtednegmjjjdinaaGreatDoor.QE
namespace Go.Proofs.YtednegmjjjdinaaGreatDoor.QE
open Go.RowKit Go.Proofs.YtednegmjjjdinaaGreatDoor.Ext Go.Proofs.YtednegmjjjdinaaGreatDoorW.PrintWords Go.Proofs.YtednegmjjjdinaaGreatDoorW.PrintLast Go.Proofs.YtednegmjjjdinaaGreatDoorW.PrintMore
attribute [local go_sem] max2_int min2_int max_two min_two max_three min_three max_four min_four
set_option linter.unusedVariables false
set_option linter.unusedSimpArgs false
def slices_Equal_string_string.l0 : Nat → List ByteArray → List ByteArray → Int → Int → Option (Bool)
 | 0, _, _, _, _ => none
 | k + 1, x0, x1, x12, x13 => if x13 < x12 then (if 0 ≤ x13 then (if x13 < (x0.length : Int) then (if x13 < (x1.length : Int) then (if (rdOf ByteArray.empty x0 x13).toList = (rdOf ByteArray.empty x1 x13).toList then (slices_Equal_string_string.l0 k x0 x1 x12 (wrap64 (x13 + 1))) else (some false)) else (none)) else (none)) else (none)) else (some true)
def slices_Equal_string_string.f (k : Nat) (l0 : List ByteArray) (l1 : List ByteArray) : Option (Bool) := if (l0.length : Int) = (l1.length : Int) then (slices_Equal_string_string.l0 k l0 l1 (l0.length : Int) 0) else (some false)
theorem slices_Equal_string_string.mono_l : ∀ k, (∀ y0 y1 y2 y3, LeO (slices_Equal_string_string.l0 k y0 y1 y2 y3) (slices_Equal_string_string.l0 (k + 1) y0 y1 y2 y3))
 | 0 => fun _ _ _ _ r h => by simp [slices_Equal_string_string.l0] at h
 | k + 1 => by
  have ih0 := slices_Equal_string_string.mono_l k
  ·
   intro y0 y1 y2 y3
   unfold slices_Equal_string_string.l0
   repeat' first
   | (with_reducible exact ih0 _ _ _ _)
   | (with_reducible exact LeO.refl _)
   | (with_reducible exact LeO.none _)
   | (with_reducible refine LeO.ite ?_ ?_)
   | (with_reducible refine LeO.bind ?_ (fun _ => ?_))
   | exact ih0 _ _ _ _
   | exact LeO.none _
   | refine LeO.ite ?_ ?_
   | refine LeO.bind ?_ (fun _ => ?_)
theorem slices_Equal_string_string.mono : ∀ a0 a1 k, LeO (slices_Equal_string_string.f k a0 a1) (slices_Equal_string_string.f (k + 1) a0 a1) := by
 intro a0 a1 k
 have ih0 := slices_Equal_string_string.mono_l k
 unfold slices_Equal_string_string.f
 repeat' first
   | (with_reducible exact ih0 _ _ _ _)
   | (with_reducible exact LeO.refl _)
   | (with_reducible exact LeO.none _)
   | (with_reducible refine LeO.ite ?_ ?_)
   | (with_reducible refine LeO.bind ?_ (fun _ => ?_))
   | exact ih0 _ _ _ _
   | exact LeO.none _
   | refine LeO.ite ?_ ?_
   | refine LeO.bind ?_ (fun _ => ?_)
theorem slices_Equal_string_string.calls (k : Nat) (A0 : Option Addr) (c0 : Nat) (l0 : List ByteArray) (A1 : Option Addr) (c1 : Nat) (l1 : List ByteArray) (r : Bool) (w : World) (hr0 : Kd.C Kd.string w A0 l0.length l0) (hc0 : l0.length ≤ c0) (hr1 : Kd.C Kd.string w A1 l1.length l1) (hc1 : l1.length ≤ c1) (h : slices_Equal_string_string.f k l0 l1 = some r) :
  Calls Tryz.prog 206 #[.slice A0 l0.length c0, .slice A1 l1.length c1] w fun e w' => e = .returned (.bool r) ∧ Drawn0 w w' := by
 have HR0 := Amk hr0
 have HC0 := Amk hc0
 clear hr0 hc0
 have HR1 := Amk hr1
 have HC1 := Amk hc1
 clear hr1 hc1
 have H : (if (l0.length : Int) = (l1.length : Int) then (slices_Equal_string_string.l0 k l0 l1 (l0.length : Int) 0) else (some false)) = some r := h
 clear h
 by_cases c3 : (l0.length : Int) = (l1.length : Int)
 ·
  rw [if_pos c3] at H
  have c3b0 : ((l0.length : Int) == (l1.length : Int)) = true := beq_iff_eq.mpr c3
  have c3b1 : ((l0.length : Int) != (l1.length : Int)) = false := bne_eq_false_iff_eq.mpr c3
  have c3b2 : (l0.length == l1.length) = true := by first | simpa using c3 | (simp at c3 ⊢; omega)
  clear c3
  have H' := Amk H
  clear H
  go_enter Tryz.func206, Tryz.ntmps206
  go_wp2
  repeat (go_quiet (fail); try go_wp2)
  go_loopg [13] k (fun kq v13 w' => ∃ (x13_1 : Int), v13 = .int .i64 x13_1 ∧ Aside0 (slices_Equal_string_string.l0 kq l0 l1 (l0.length : Int) x13_1 = some r) ∧ Aside0 (kq ≤ k) ∧ Drawn0 w w')
  case atStart => exact ⟨(0), (by first | rfl | (simp; done) | (simp [*]; done)), H', ⟨Nat.le_refl _⟩, by repeat (first | exact Drawn0.refl _ | apply Drawn0.step)⟩
  case round =>
   clear H'
   try clear c1
   try clear c2
   try clear p2
   try clear c3
   try clear c3b0
   try clear c3b1
   try clear c3b2
   obtain ⟨x13_1, rfl, HA, HK1, ⟨m1, rfl⟩⟩ := hrel
   cases gk with
   | zero => exact absurd HA.out (by simp [slices_Equal_string_string.l0])
   | succ k1 =>
    have H := HA.out
    clear HA
    simp only [slices_Equal_string_string.l0] at H
    by_cases c4 : x13_1 < (l0.length : Int)
    ·
     rw [if_pos c4] at H
     have c4b0 : decide (x13_1 < (l0.length : Int)) = true := decide_eq_true c4
     clear c4
     by_cases c5 : 0 ≤ x13_1
     ·
      rw [if_pos c5] at H
      have c5b0 : decide (0 ≤ x13_1) = true := decide_eq_true c5
      clear c5
      by_cases c6 : x13_1 < (l0.length : Int)
      ·
       rw [if_pos c6] at H
       have c6b0 : decide (x13_1 < (l0.length : Int)) = true := decide_eq_true c6
       clear c6
       by_cases c7 : x13_1 < (l1.length : Int)
       ·
        rw [if_pos c7] at H
        have c7b0 : decide (x13_1 < (l1.length : Int)) = true := decide_eq_true c7
        clear c7
        by_cases c8 : (rdOf ByteArray.empty l0 x13_1).toList = (rdOf ByteArray.empty l1 x13_1).toList
        ·
         rw [if_pos c8] at H
         have c8b0 : ((rdOf ByteArray.empty l0 x13_1).toList == (rdOf ByteArray.empty l1 x13_1).toList) = true := beq_iff_eq.mpr c8
         have c8b1 : ((rdOf ByteArray.empty l0 x13_1).toList != (rdOf ByteArray.empty l1 x13_1).toList) = false := bne_eq_false_iff_eq.mpr c8
         clear c8
         have H' := Amk H
         clear H
         have p101 : 0 ≤ (x13_1 : Int) := of_decide_eq_true (by first | (with_reducible assumption) | assumption)
         have q101 : x13_1 < (l0.length : Int) := of_decide_eq_true (by first | (with_reducible assumption) | assumption)
         obtain ⟨ad101, e101, hx101_0⟩ := Kd.at_string HR0.out x13_1 p101 q101
         cases e101
         replace p101 := eq_true p101
         replace q101 := eq_true q101
         have p102 : 0 ≤ (x13_1 : Int) := of_decide_eq_true (by first | (with_reducible assumption) | assumption)
         have q102 : x13_1 < (l1.length : Int) := of_decide_eq_true (by first | (with_reducible assumption) | assumption)
         obtain ⟨ad102, e102, hx102_0⟩ := Kd.at_string HR1.out x13_1 p102 q102
         cases e102
         replace p102 := eq_true p102
         replace q102 := eq_true q102
         go_wp2
         repeat (go_quiet (fail); try go_wp2)
         go_roundg k1
         case measure => have := HK1.out; omega
         case rel => exact ⟨(wrap64 (x13_1 + 1)), (by first | rfl | (simp; done) | (simp [*]; done)), H', ⟨by have := HK1.out; omega⟩, by repeat (first | exact Drawn0.refl _ | apply Drawn0.step)⟩
        ·
         rw [if_neg c8] at H
         have c8b0 : ((rdOf ByteArray.empty l0 x13_1).toList == (rdOf ByteArray.empty l1 x13_1).toList) = false := beq_eq_false_iff_ne.mpr c8
         have c8b1 : ((rdOf ByteArray.empty l0 x13_1).toList != (rdOf ByteArray.empty l1 x13_1).toList) = true := bne_iff_ne.mpr c8
         obtain rfl := Option.some.inj H
         have p101 : 0 ≤ (x13_1 : Int) := of_decide_eq_true (by first | (with_reducible assumption) | assumption)
         have q101 : x13_1 < (l0.length : Int) := of_decide_eq_true (by first | (with_reducible assumption) | assumption)
         obtain ⟨ad101, e101, hx101_0⟩ := Kd.at_string HR0.out x13_1 p101 q101
         cases e101
         replace p101 := eq_true p101
         replace q101 := eq_true q101
         have p102 : 0 ≤ (x13_1 : Int) := of_decide_eq_true (by first | (with_reducible assumption) | assumption)
         have q102 : x13_1 < (l1.length : Int) := of_decide_eq_true (by first | (with_reducible assumption) | assumption)
         obtain ⟨ad102, e102, hx102_0⟩ := Kd.at_string HR1.out x13_1 p102 q102
         cases e102
         replace p102 := eq_true p102
         replace q102 := eq_true q102
         go_wp2
         repeat (go_quiet (fail); try go_wp2)
         go_ret
         exact ⟨by first | rfl | (simp; done) | (simp [*]; done), by repeat (first | exact Drawn0.refl _ | apply Drawn0.step)⟩
       ·
        rw [if_neg c7] at H
        exact absurd H (by simp)
      ·
       rw [if_neg c6] at H
       exact absurd H (by simp)
     ·
      rw [if_neg c5] at H
      exact absurd H (by simp)
    ·
     rw [if_neg c4] at H
     have c4b0 : decide (x13_1 < (l0.length : Int)) = false := decide_eq_false c4
     clear c4
     obtain rfl := Option.some.inj H
     go_wp2
     repeat (go_quiet (fail); try go_wp2)
     go_ret
     exact ⟨by first | rfl | (simp; done) | (simp [*]; done), by repeat (first | exact Drawn0.refl _ | apply Drawn0.step)⟩
 ·
  rw [if_neg c3] at H
  have c3b0 : ((l0.length : Int) == (l1.length : Int)) = false := beq_eq_false_iff_ne.mpr c3
  have c3b1 : ((l0.length : Int) != (l1.length : Int)) = true := bne_iff_ne.mpr c3
  have c3b2 : (l0.length == l1.length) = false := by first | simpa using c3 | (simp at c3 ⊢; omega)
  obtain rfl := Option.some.inj H
  go_enter Tryz.func206, Tryz.ntmps206
  go_wp2
  repeat (go_quiet (fail); try go_wp2)
  go_ret
  exact ⟨by first | rfl | (simp; done) | (simp [*]; done), by repeat (first | exact Drawn0.refl _ | apply Drawn0.step)⟩
def slices_Equal_int_int.l0 : Nat → List Int → List Int → Int → Int → Option (Bool)
 | 0, _, _, _, _ => none
 | k + 1, x0, x1, x12, x13 => if x13 < x12 then (if 0 ≤ x13 then (if x13 < (x0.length : Int) then (if x13 < (x1.length : Int) then (if (rd x0 x13) = (rd x1 x13) then (slices_Equal_int_int.l0 k x0 x1 x12 (wrap64 (x13 + 1))) else (some false)) else (none)) else (none)) else (none)) else (some true)
def slices_Equal_int_int.f (k : Nat) (l0 : List Int) (l1 : List Int) : Option (Bool) := if (l0.length : Int) = (l1.length : Int) then (slices_Equal_int_int.l0 k l0 l1 (l0.length : Int) 0) else (some false)
theorem slices_Equal_int_int.mono_l : ∀ k, (∀ y0 y1 y2 y3, LeO (slices_Equal_int_int.l0 k y0 y1 y2 y3) (slices_Equal_int_int.l0 (k + 1) y0 y1 y2 y3))
 | 0 => fun _ _ _ _ r h => by simp [slices_Equal_int_int.l0] at h
 | k + 1 => by
  have ih0 := slices_Equal_int_int.mono_l k
  ·
   intro y0 y1 y2 y3
   unfold slices_Equal_int_int.l0
   repeat' first
   | (with_reducible exact ih0 _ _ _ _)
   | (with_reducible exact LeO.refl _)
   | (with_reducible exact LeO.none _)
   | (with_reducible refine LeO.ite ?_ ?_)
   | (with_reducible refine LeO.bind ?_ (fun _ => ?_))
   | exact ih0 _ _ _ _
   | exact LeO.none _
   | refine LeO.ite ?_ ?_
   | refine LeO.bind ?_ (fun _ => ?_)
theorem slices_Equal_int_int.mono : ∀ a0 a1 k, LeO (slices_Equal_int_int.f k a0 a1) (slices_Equal_int_int.f (k + 1) a0 a1) := by
 intro a0 a1 k
 have ih0 := slices_Equal_int_int.mono_l k
 unfold slices_Equal_int_int.f
 repeat' first
   | (with_reducible exact ih0 _ _ _ _)
   | (with_reducible exact LeO.refl _)
   | (with_reducible exact LeO.none _)
   | (with_reducible refine LeO.ite ?_ ?_)
   | (with_reducible refine LeO.bind ?_ (fun _ => ?_))
   | exact ih0 _ _ _ _
   | exact LeO.none _
   | refine LeO.ite ?_ ?_
   | refine LeO.bind ?_ (fun _ => ?_)
theorem slices_Equal_int_int.calls (k : Nat) (A0 : Option Addr) (c0 : Nat) (l0 : List Int) (A1 : Option Addr) (c1 : Nat) (l1 : List Int) (r : Bool) (w : World) (hr0 : Kd.C (Kd.int .i64) w A0 l0.length l0) (hc0 : l0.length ≤ c0) (hr1 : Kd.C (Kd.int .i64) w A1 l1.length l1) (hc1 : l1.length ≤ c1) (h : slices_Equal_int_int.f k l0 l1 = some r) :
  Calls Tryz.prog 207 #[.slice A0 l0.length c0, .slice A1 l1.length c1] w fun e w' => e = .returned (.bool r) ∧ Drawn0 w w' := by
 have HR0 := Amk hr0
 have HC0 := Amk hc0
 clear hr0 hc0
 have HR1 := Amk hr1
 have HC1 := Amk hc1
 clear hr1 hc1
 have H : (if (l0.length : Int) = (l1.length : Int) then (slices_Equal_int_int.l0 k l0 l1 (l0.length : Int) 0) else (some false)) = some r := h
 clear h
 by_cases c3 : (l0.length : Int) = (l1.length : Int)
 ·
  rw [if_pos c3] at H
  have c3b0 : ((l0.length : Int) == (l1.length : Int)) = true := beq_iff_eq.mpr c3
  have c3b1 : ((l0.length : Int) != (l1.length : Int)) = false := bne_eq_false_iff_eq.mpr c3
  have c3b2 : (l0.length == l1.length) = true := by first | simpa using c3 | (simp at c3 ⊢; omega)
  clear c3
  have H' := Amk H
  clear H
  go_enter Tryz.func207, Tryz.ntmps207
  go_wp2
  repeat (go_quiet (fail); try go_wp2)
  go_loopg [13] k (fun kq v13 w' => ∃ (x13_1 : Int), v13 = .int .i64 x13_1 ∧ Aside0 (slices_Equal_int_int.l0 kq l0 l1 (l0.length : Int) x13_1 = some r) ∧ Aside0 (kq ≤ k) ∧ Drawn0 w w')
  case atStart => exact ⟨(0), (by first | rfl | (simp; done) | (simp [*]; done)), H', ⟨Nat.le_refl _⟩, by repeat (first | exact Drawn0.refl _ | apply Drawn0.step)⟩
  case round =>
   clear H'
   try clear c1
   try clear c2
   try clear p2
   try clear c3
   try clear c3b0
   try clear c3b1
   try clear c3b2
   obtain ⟨x13_1, rfl, HA, HK1, ⟨m1, rfl⟩⟩ := hrel
   cases gk with
   | zero => exact absurd HA.out (by simp [slices_Equal_int_int.l0])
   | succ k1 =>
    have H := HA.out
    clear HA
    simp only [slices_Equal_int_int.l0] at H
    by_cases c4 : x13_1 < (l0.length : Int)
    ·
     rw [if_pos c4] at H
     have c4b0 : decide (x13_1 < (l0.length : Int)) = true := decide_eq_true c4
     clear c4
     by_cases c5 : 0 ≤ x13_1
     ·
      rw [if_pos c5] at H
      have c5b0 : decide (0 ≤ x13_1) = true := decide_eq_true c5
      clear c5
      by_cases c6 : x13_1 < (l0.length : Int)
      ·
       rw [if_pos c6] at H
       have c6b0 : decide (x13_1 < (l0.length : Int)) = true := decide_eq_true c6
       clear c6
       by_cases c7 : x13_1 < (l1.length : Int)
       ·
        rw [if_pos c7] at H
        have c7b0 : decide (x13_1 < (l1.length : Int)) = true := decide_eq_true c7
        clear c7
        by_cases c8 : (rd l0 x13_1) = (rd l1 x13_1)
        ·
         rw [if_pos c8] at H
         have c8b0 : ((rd l0 x13_1) == (rd l1 x13_1)) = true := beq_iff_eq.mpr c8
         have c8b1 : ((rd l0 x13_1) != (rd l1 x13_1)) = false := bne_eq_false_iff_eq.mpr c8
         clear c8
         have H' := Amk H
         clear H
         have p103 : 0 ≤ (x13_1 : Int) := of_decide_eq_true (by first | (with_reducible assumption) | assumption)
         have q103 : x13_1 < (l0.length : Int) := of_decide_eq_true (by first | (with_reducible assumption) | assumption)
         obtain ⟨ad103, e103, hx103_0⟩ := Kd.at_int HR0.out x13_1 p103 q103
         cases e103
         replace p103 := eq_true p103
         replace q103 := eq_true q103
         have p104 : 0 ≤ (x13_1 : Int) := of_decide_eq_true (by first | (with_reducible assumption) | assumption)
         have q104 : x13_1 < (l1.length : Int) := of_decide_eq_true (by first | (with_reducible assumption) | assumption)
         obtain ⟨ad104, e104, hx104_0⟩ := Kd.at_int HR1.out x13_1 p104 q104
         cases e104
         replace p104 := eq_true p104
         replace q104 := eq_true q104
         go_wp2
         repeat (go_quiet (fail); try go_wp2)
         go_roundg k1
         case measure => have := HK1.out; omega
         case rel => exact ⟨(wrap64 (x13_1 + 1)), (by first | rfl | (simp; done) | (simp [*]; done)), H', ⟨by have := HK1.out; omega⟩, by repeat (first | exact Drawn0.refl _ | apply Drawn0.step)⟩
        ·
         rw [if_neg c8] at H
         have c8b0 : ((rd l0 x13_1) == (rd l1 x13_1)) = false := beq_eq_false_iff_ne.mpr c8
         have c8b1 : ((rd l0 x13_1) != (rd l1 x13_1)) = true := bne_iff_ne.mpr c8
         obtain rfl := Option.some.inj H
         have p103 : 0 ≤ (x13_1 : Int) := of_decide_eq_true (by first | (with_reducible assumption) | assumption)
         have q103 : x13_1 < (l0.length : Int) := of_decide_eq_true (by first | (with_reducible assumption) | assumption)
         obtain ⟨ad103, e103, hx103_0⟩ := Kd.at_int HR0.out x13_1 p103 q103
         cases e103
         replace p103 := eq_true p103
         replace q103 := eq_true q103
         have p104 : 0 ≤ (x13_1 : Int) := of_decide_eq_true (by first | (with_reducible assumption) | assumption)
         have q104 : x13_1 < (l1.length : Int) := of_decide_eq_true (by first | (with_reducible assumption) | assumption)
         obtain ⟨ad104, e104, hx104_0⟩ := Kd.at_int HR1.out x13_1 p104 q104
         cases e104
         replace p104 := eq_true p104
         replace q104 := eq_true q104
         go_wp2
         repeat (go_quiet (fail); try go_wp2)
         go_ret
         exact ⟨by first | rfl | (simp; done) | (simp [*]; done), by repeat (first | exact Drawn0.refl _ | apply Drawn0.step)⟩
       ·
        rw [if_neg c7] at H
        exact absurd H (by simp)
      ·
       rw [if_neg c6] at H
       exact absurd H (by simp)
     ·
      rw [if_neg c5] at H
      exact absurd H (by simp)
    ·
     rw [if_neg c4] at H
     have c4b0 : decide (x13_1 < (l0.length : Int)) = false := decide_eq_false c4
     clear c4
     obtain rfl := Option.some.inj H
     go_wp2
     repeat (go_quiet (fail); try go_wp2)
     go_ret
     exact ⟨by first | rfl | (simp; done) | (simp [*]; done), by repeat (first | exact Drawn0.refl _ | apply Drawn0.step)⟩
 ·
  rw [if_neg c3] at H
  have c3b0 : ((l0.length : Int) == (l1.length : Int)) = false := beq_eq_false_iff_ne.mpr c3
  have c3b1 : ((l0.length : Int) != (l1.length : Int)) = true := bne_iff_ne.mpr c3
  have c3b2 : (l0.length == l1.length) = false := by first | simpa using c3 | (simp at c3 ⊢; omega)
  obtain rfl := Option.some.inj H
  go_enter Tryz.func207, Tryz.ntmps207
  go_wp2
  repeat (go_quiet (fail); try go_wp2)
  go_ret
  exact ⟨by first | rfl | (simp; done) | (simp [*]; done), by repeat (first | exact Drawn0.refl _ | apply Drawn0.step)⟩
end Go.Proofs.YtednegmjjjdinaaGreatDoor.QE
