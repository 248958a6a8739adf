/- Contracts proved by hand, in the form of the printed ones: topic.Good (a closure is handed to slices.ContainsFunc). -/
import Derived.Test.YtednegmjjjdinaaDoorQW1
namespace Go.Proofs.YtednegmjjjdinaaDoor.Ext
open Go.RowKit Go.Proofs.YtednegmjjjdinaaDoorW.PrintWords Go.Proofs.YtednegmjjjdinaaDoorW.PrintLast Go.Proofs.YtednegmjjjdinaaDoorW.PrintMore Go.Proofs.YtednegmjjjdinaaDoor.QW

theorem word_is (s : ByteArray) : topic_word.f s = some (M.isName s.data.toList) := by
  unfold topic_word.f M.isName
  rw [Lib.toList_data]
  by_cases h0 : s.data.toList = []
  · rw [if_pos h0, h0]; rfl
  rw [if_neg h0]
  have h0' : s.data.toList.isEmpty = false := by cases h : s.data.toList with
    | nil => exact absurd h h0
    | cons _ _ => rfl
  by_cases h1 : (s.size : Int) ≤ 16
  · rw [if_pos h1]
    have h2 : s.data.toList.length ≤ 16 := by rw [← Lib.size_eq]; omega
    unfold strings_Trim.f
    rw [if_pos ⟨by omega, by decide, by decide⟩]
    simp only [Option.bind_some, h0', h2, decide_true, Bool.not_false, Bool.true_and]
    congr 1
    rw [Bool.eq_iff_iff, beq_iff_eq, Lib.toList_data]
    simp only []
    rw [M.trimS_nil]
    simp only [List.all_eq_true]
    exact ⟨fun h x hx => (M.letter_iff x).symm.trans (h x hx), fun h x hx => (M.letter_iff x).trans (h x hx)⟩
  · rw [if_neg h1]
    have h2 : ¬ s.data.toList.length ≤ 16 := by rw [← Lib.size_eq]; omega
    rw [show decide (s.data.toList.length ≤ 16) = false from decide_eq_false h2]
    simp

theorem good1 (s : ByteArray) (w : World) (hG : WI w) :
    Calls Tryd.prog 29 #[.string s] w fun e w' => e = .returned (.bool (!M.isName s.data.toList)) ∧ Below w.heap.size w w' := by
  have HW := Aside0.mk (topic_word.calls s _ w hG (word_is s))
  clear hG
  go_enter Tryd.func29, Tryd.ntmps29
  go_wp2_with (go_at_call 30; refine HW.out.mono ?_; rintro e w' ⟨rfl, hb⟩)
  go_ret
  exact ⟨rfl, hb⟩

theorem rdOf_at (ss : List ByteArray) (j : Nat) (hj : j < ss.length) : rdOf ByteArray.empty ss (j : Int) = ss[j] := by
  simp [rdOf, hj]
theorem take_all (ss : List ByteArray) (j : Nat) (hj : j < ss.length) {P : ByteArray → Prop} (h : ∀ s ∈ ss.take j, P s) (hp : P (rdOf ByteArray.empty ss (j : Int))) : ∀ s ∈ ss.take (j + 1), P s := by
  intro s hs
  rw [List.take_succ_eq_append_getElem hj, List.mem_append] at hs
  rcases hs with hs | hs
  · exact h s hs
  · rw [List.mem_singleton.1 hs, ← rdOf_at ss j hj]; exact hp
theorem mem_rdOf (ss : List ByteArray) (j : Nat) (hj : j < ss.length) : rdOf ByteArray.empty ss (j : Int) ∈ ss := by
  rw [rdOf_at ss j hj]; exact List.getElem_mem hj
/-- What slices.IndexFunc answers: -1, or the first place at which the text is no word. -/
def IdxPost (ss : List ByteArray) (w : World) (e : Ending) (w' : World) : Prop :=
  ∃ i : Int, e = .returned (.int .i64 i) ∧ Aside0 (0 ≤ i ↔ ∃ s ∈ ss, M.isName s.data.toList = false) ∧ Below w.heap.size w w'

set_option maxHeartbeats 1000000 in
theorem indexFunc (ss : List ByteArray) (A : Option Addr) (c : Nat) (w : World) (hG : WI w) (hr : Kd.C Kd.string w A ss.length ss) (hlen : ss.length ≤ 4611686018427387904) :
    Calls Tryd.prog 40 #[.slice A ss.length c, .func (.func 29) #[] #[]] w (IdxPost ss w) := by
  have HG := Aside0.mk hG
  have HR := Aside0.mk hr
  clear hG hr
  go_enter Tryd.func40, Tryd.ntmps40
  go_wp2
  go_loopg [8] ss.length (fun kq v8 w' => ∃ j : Nat, v8 = .int .i64 j ∧ j + kq = ss.length ∧ Aside0 (∀ s ∈ ss.take j, M.isName s.data.toList = true) ∧ Aside0 (Below w.heap.size w w'))
  case atStart => exact ⟨0, rfl, by omega, ⟨by simp⟩, ⟨Below.refl _ _⟩⟩
  case round =>
    obtain ⟨j, rfl, hj, HN, HB⟩ := hrel
    cases gk with
    | zero =>
      have hge : decide ((j : Int) < (ss.length : Int)) = false := decide_eq_false (by omega)
      go_wp2
      go_ret
      exact ⟨-1, rfl, ⟨⟨fun h => absurd h (by decide), fun ⟨s, hs, h⟩ => by
        have := HN.out s (by rw [List.take_of_length_le (by omega)]; exact hs)
        rw [this] at h; cases h⟩⟩, HB.out⟩
    | succ g =>
      have hlt : decide ((j : Int) < (ss.length : Int)) = true := decide_eq_true (by omega)
      obtain ⟨ad, rfl, hcell⟩ := Kd.at_string (Kd.C_below HR.out HB.out) (j : Int) (by omega) (by omega)
      simp only [Int.toNat_natCast] at hcell
      have HC : Aside0 (∀ W, Below w.heap.size w W → Calls Tryd.prog 29 #[.string (rdOf ByteArray.empty ss j)] W fun e w' => e = .returned (.bool (!M.isName (rdOf ByteArray.empty ss j).data.toList)) ∧ Below W.heap.size W w') :=
        ⟨fun W hW => good1 (rdOf ByteArray.empty ss j) W (WI.below HG.out hW)⟩
      by_cases hb : M.isName (rdOf ByteArray.empty ss j).data.toList = true
      · have HB1 := Aside0.mk hb
        rw [hb] at HC
        clear hb
        go_wp2_with (go_at_call 29; refine (HC.out _ HB.out).mono ?_; rintro e w2 ⟨rfl, hb2⟩)
        go_roundg g
        case rel => exact ⟨j + 1, by go_num, by omega, ⟨take_all ss j (by omega) HN.out HB1.out⟩, ⟨below_then HB.out HB.out.size hb2⟩⟩
        case measure => omega
      · have HB1 := Aside0.mk (Bool.eq_false_iff.2 hb)
        rw [HB1.out] at HC
        clear hb
        go_wp2_with (go_at_call 29; refine (HC.out _ HB.out).mono ?_; rintro e w2 ⟨rfl, hb2⟩)
        go_ret
        exact ⟨j, rfl, ⟨⟨fun _ => ⟨_, mem_rdOf ss j (by omega), HB1.out⟩, fun _ => by omega⟩⟩, below_then HB.out HB.out.size hb2⟩

def anyBad (ss : List ByteArray) : Bool := ss.any fun s => !M.isName s.data.toList
theorem containsFunc (ss : List ByteArray) (A : Option Addr) (c : Nat) (w : World) (hG : WI w) (hr : Kd.C Kd.string w A ss.length ss) (hlen : ss.length ≤ 4611686018427387904) :
    Calls Tryd.prog 28 #[.slice A ss.length c, .func (.func 29) #[] #[]] w fun e w' => e = .returned (.bool (anyBad ss)) ∧ Below w.heap.size w w' := by
  have HC := Aside0.mk (indexFunc ss A c w hG hr hlen)
  clear hG hr
  go_enter Tryd.func28, Tryd.ntmps28
  go_wp2_with (go_at_call 40; refine HC.out.mono ?_; rintro e w2 ⟨i, rfl, HI, hb⟩)
  go_ret
  refine ⟨?_, hb⟩
  have : decide (0 ≤ i) = anyBad ss := by
    rw [Bool.eq_iff_iff, decide_eq_true_iff, HI.out]
    simp [anyBad]
  rw [← this]
  rfl

/-! ### topic.Good -/
def goodB (l : List UInt8) : Bool := decide (l.length ≤ 64) && (decide ((M.words l).length ≤ 8) && (M.words l).all M.isName)
theorem anyBad_bas (ls : List (List UInt8)) : anyBad (M.bas ls) = !ls.all M.isName := by
  simp only [anyBad, M.bas]
  induction ls with
  | nil => rfl
  | cons l ls ih => simp only [List.map_cons, List.any_cons, List.all_cons, ih, Bool.not_and]
def topic_Good.f (a0 : ByteArray) : Option Bool := if a0.size < 4294967281 then some (goodB a0.data.toList) else none
set_option maxHeartbeats 1000000 in
theorem topic_Good.calls (a0 : ByteArray) (r : Bool) (w : World) (hG : WI w) (h : topic_Good.f a0 = some r) :
    Calls Tryd.prog 11 #[.string a0] w fun e w' => e = .returned (.bool r) ∧ Below w.heap.size w w' := by
  unfold topic_Good.f at h
  split at h
  case isFalse => cases h
  case isTrue hs =>
  obtain rfl := Option.some.inj h
  have HS := Aside0.mk (strings_Split.calls a0 ⟨#[46]⟩ (M.bas (M.words a0.data.toList)) w hG (by unfold strings_Split.f; rw [if_pos ⟨rfl, hs⟩]))
  have HG := Aside0.mk hG
  have HL : Aside0 ((M.bas (M.words a0.data.toList)).length ≤ 4294967282) := ⟨by have := M.words_le a0; rw [M.bas_length]; omega⟩
  have HGood : Aside0 (goodB a0.data.toList = (decide (a0.size ≤ 64) && (decide ((M.bas (M.words a0.data.toList)).length ≤ 8) && !anyBad (M.bas (M.words a0.data.toList))))) := ⟨by
    unfold goodB; rw [anyBad_bas, Bool.not_not, M.bas_length, ← Lib.size_eq]⟩
  rw [HGood.out]
  clear hG h HGood
  generalize M.bas (M.words a0.data.toList) = ss at *
  by_cases h64 : a0.size ≤ 64
  · by_cases h8 : ss.length ≤ 8
    · rw [decide_eq_true h64, decide_eq_true h8, Bool.true_and, Bool.true_and]
      have b1 : decide ((a0.size : Int) ≤ 64) = true := decide_eq_true (by omega)
      have b2 : decide ((ss.length : Int) ≤ 8) = true := decide_eq_true (by omega)
      go_enter Tryd.func11, Tryd.ntmps11
      go_wp2_with (go_at_call 27; refine HS.out.mono ?_; rintro e w2 ⟨v, rfl, hR, hb⟩; (have HR := Aside0.mk hR; have HB := Aside0.mk hb; clear hR hb); obtain ⟨A, c, rfl⟩ := Kd.R_slice HR.out)
      have HC := Aside0.mk (containsFunc ss A c w2 (WI.below HG.out HB.out) (Kd.R_reads' HR.out).2.2 (by have := HL.out; omega))
      go_wp2_with (go_at_call 28; refine HC.out.mono ?_; rintro e w3 ⟨rfl, hb3⟩)
      go_ret
      exact ⟨rfl, below_then HB.out HB.out.size hb3⟩
    · rw [decide_eq_true h64, decide_eq_false h8, Bool.true_and, Bool.false_and]
      have b1 : decide ((a0.size : Int) ≤ 64) = true := decide_eq_true (by omega)
      have b2 : decide ((ss.length : Int) ≤ 8) = false := decide_eq_false (by omega)
      go_enter Tryd.func11, Tryd.ntmps11
      go_wp2_with (go_at_call 27; refine HS.out.mono ?_; rintro e w2 ⟨v, rfl, hR, hb⟩; (have HR := Aside0.mk hR; have HB := Aside0.mk hb; clear hR hb); obtain ⟨A, c, rfl⟩ := Kd.R_slice HR.out)
      go_ret
      exact ⟨rfl, HB.out⟩
  · rw [decide_eq_false h64, Bool.false_and]
    have b1 : decide ((a0.size : Int) ≤ 64) = false := decide_eq_false (by omega)
    go_enter Tryd.func11, Tryd.ntmps11
    go_wp2_with (go_at_call 27; refine HS.out.mono ?_; rintro e w2 ⟨v, rfl, hR, hb⟩; (have HR := Aside0.mk hR; have HB := Aside0.mk hb; clear hR hb); obtain ⟨A, c, rfl⟩ := Kd.R_slice HR.out)
    go_ret
    exact ⟨rfl, HB.out⟩
end Go.Proofs.YtednegmjjjdinaaDoor.Ext
