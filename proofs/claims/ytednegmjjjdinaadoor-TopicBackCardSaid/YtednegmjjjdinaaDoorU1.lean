/- What the printed functions on topics come to, said of lists of bytes: Good, Pattern, Match, Covers, both of the program and of the reference. -/
import Derived.Test.YtednegmjjjdinaaDoorU
namespace Go.Proofs.YtednegmjjjdinaaDoor.U
open Go.RowKit Go.Proofs.YtednegmjjjdinaaDoorW.PrintWords Go.Proofs.YtednegmjjjdinaaDoorW.PrintLast Go.Proofs.YtednegmjjjdinaaDoor.Q Go.Proofs.YtednegmjjjdinaaDoor.QW Go.Proofs.YtednegmjjjdinaaDoor.Ext Go.Proofs.YtednegmjjjdinaaDoor.M

/-- A list of words, each short. -/
def Short (p : List (List UInt8)) : Prop := p.length ≤ 1048577 ∧ ∀ w ∈ p, w.length ≤ 1048576
theorem short_words (s : ByteArray) (hs : s.size ≤ 1048576) : Short (words s.data.toList) := by
  have hl : s.data.toList.length = s.size := (Lib.size_eq s).symm
  have h1 := words_le' s.data.toList
  exact ⟨by omega, fun w hw => by have := words_len _ w hw; omega⟩

theorem good_now (s : ByteArray) (hs : s.size ≤ 1048576) : topic_Good.f s = some (M.goodB s.data.toList) := by
  unfold topic_Good.f
  rw [if_pos (by omega)]
  rfl

theorem refgood_loop (p : List (List UInt8)) (hp : Short p) (d : Nat) : ∀ i : Nat, i + d = p.length →
    Ev (fun k => trivetref08_Good.l0 k (bas p) (bas p) (p.length : Int) (i : Int)) ((p.drop i).all isName && decide (p.length ≤ 8)) := by
  have hpl := hp.1
  induction d with
  | zero =>
    intro i hi
    refine Ev.step (f := fun k => some (decide (p.length ≤ 8))) (fun k => ?_) ?_
    · simp only [trivetref08_Good.l0]
      rw [if_neg (by omega), bas_length]
      congr 1
      rw [Bool.eq_iff_iff, decide_eq_true_iff, decide_eq_true_iff]; omega
    · rw [List.drop_of_length_le (by omega)]
      exact Ev.now _
  | succ d ih =>
    intro i hi
    have hlt : i < p.length := by omega
    refine Ev.step (f := fun k => (trivetref07_Name.f k (⟨p[i].toArray⟩ : ByteArray)).bind fun t => if t = true then trivetref08_Good.l0 k (bas p) (bas p) (p.length : Int) ((i + 1 : Nat) : Int) else some false) (fun k => ?_) ?_
    · simp only [trivetref08_Good.l0]
      rw [if_pos (by omega), if_pos (by omega), if_pos (by rw [bas_length]; omega), rd_bas p i hlt, wsucc i (by omega)]
    · refine Ev.bind (name_ev _ (by rw [Lib.size_eq]; exact hp.2 _ (List.getElem_mem hlt))) ?_
      rw [ba_list, List.drop_eq_getElem_cons hlt, List.all_cons]
      by_cases h : isName p[i] = true
      · simp only [h, if_true, Bool.true_and]; exact ih (i + 1) (by omega)
      · simp only [Bool.eq_false_iff.2 h, Bool.false_eq_true, if_false, Bool.false_and]; exact Ev.now _
theorem refgood_ev (s : ByteArray) (hs : s.size ≤ 1048576) : Ev (fun k => trivetref08_Good.f k s) (M.goodB s.data.toList) := by
  have hl : s.data.toList.length = s.size := (Lib.size_eq s).symm
  unfold M.goodB
  by_cases h : s.size ≤ 64
  · refine Ev.congr (f := fun k => (trivetref08_Words.f k s 46).bind fun t => trivetref08_Good.l0 k t t (t.length : Int) 0) (fun k => ?_) ?_
    · unfold trivetref08_Good.f; rw [if_neg (by omega)]
    · refine Ev.bind (words_ev s hs) ?_
      rw [bas_length]
      have := refgood_loop _ (short_words s hs) (words s.data.toList).length 0 (by omega)
      rw [List.drop_zero, Bool.and_comm] at this
      rw [decide_eq_true (by omega : s.data.toList.length ≤ 64), Bool.true_and]
      exact this
  · refine Ev.congr (f := fun k => some false) (fun k => ?_) ?_
    · unfold trivetref08_Good.f; rw [if_pos (by omega)]
    · rw [decide_eq_false (by omega : ¬ s.data.toList.length ≤ 64), Bool.false_and]
      exact Ev.now _

theorem wpred (n : Nat) (h : n ≤ 4611686018427387904) : wrap64 ((n : Int) - 1) = (n : Int) - 1 := by unfold wrap64; omega

theorem patW_drop (p : List (List UInt8)) (i : Nat) (h : i < p.length) :
    patW (p.drop i) = ((isName p[i] || (p[i] == [42] || (p[i] == [35] && decide (i + 1 = p.length)))) && patW (p.drop (i + 1))) := by
  rw [List.drop_eq_getElem_cons h, patW]
  congr 3
  congr 1
  rw [Bool.eq_iff_iff, decide_eq_true_iff, List.isEmpty_iff, List.drop_eq_nil_iff]
  omega

theorem refpat_loop (p : List (List UInt8)) (hp : Short p) (d : Nat) : ∀ i : Nat, i + d = p.length →
    Ev (fun k => trivetref08_Pattern.l0 k (bas p) (bas p) (p.length : Int) (i : Int)) (patW (p.drop i) && decide (p.length ≤ 8)) := by
  have hpl := hp.1
  induction d with
  | zero =>
    intro i hi
    refine Ev.step (f := fun k => some (decide (p.length ≤ 8))) (fun k => ?_) ?_
    · simp only [trivetref08_Pattern.l0]
      rw [if_neg (by omega), bas_length]
      congr 1
      rw [Bool.eq_iff_iff, decide_eq_true_iff, decide_eq_true_iff]; omega
    · rw [List.drop_of_length_le (by omega)]
      exact Ev.now _
  | succ d ih =>
    intro i hi
    have hlt : i < p.length := by omega
    have IH := ih (i + 1) (by omega)
    refine Ev.step (f := fun k => if p[i] = [35] then (if (i : Int) < (p.length : Int) - 1 then some false else trivetref08_Pattern.l0 k (bas p) (bas p) (p.length : Int) ((i + 1 : Nat) : Int)) else if p[i] = [42] then trivetref08_Pattern.l0 k (bas p) (bas p) (p.length : Int) ((i + 1 : Nat) : Int) else (trivetref07_Name.f k (⟨p[i].toArray⟩ : ByteArray)).bind fun t => if t = true then trivetref08_Pattern.l0 k (bas p) (bas p) (p.length : Int) ((i + 1 : Nat) : Int) else some false) (fun k => ?_) ?_
    · simp only [trivetref08_Pattern.l0]
      rw [if_pos (by omega), if_pos (by omega), if_pos (by rw [bas_length]; omega), rd_list p i hlt, rd_bas p i hlt, wsucc i (by omega), bas_length, wpred _ (by omega)]
    · rw [patW_drop p i hlt]
      have hn := name_ev (⟨p[i].toArray⟩ : ByteArray) (by rw [Lib.size_eq]; exact hp.2 _ (List.getElem_mem hlt))
      rw [ba_list] at hn
      generalize p[i] = w at *
      by_cases h35 : w = [35]
      · subst h35
        have e1 : isName [35] = false := by decide
        have e2 : (([35] : List UInt8) == [42]) = false := by decide
        simp only [e1, e2, Bool.false_or, beq_self_eq_true, Bool.true_and, if_true]
        by_cases hlast : i + 1 = p.length
        · have : ¬ ((i : Int) < (p.length : Int) - 1) := by omega
          simp only [this, if_false, hlast, decide_true, Bool.true_and] at *
          exact IH
        · have : ((i : Int) < (p.length : Int) - 1) := by omega
          simp only [this, if_true, hlast, decide_false, Bool.false_and]
          exact Ev.now _
      · simp only [h35, if_false]
        have e0 : (w == [35]) = false := by simpa using h35
        by_cases h42 : w = [42]
        · subst h42
          simp only [if_true, beq_self_eq_true, Bool.true_or, Bool.or_true, Bool.true_and]
          exact IH
        · have e1 : (w == [42]) = false := by simpa using h42
          simp only [h42, if_false, e0, e1, Bool.false_and, Bool.or_false]
          refine Ev.bind hn ?_
          by_cases h : isName w = true
          · simp only [h, if_true, Bool.true_and]; exact IH
          · simp only [Bool.eq_false_iff.2 h, Bool.false_eq_true, if_false, Bool.false_and]; exact Ev.now _
theorem refpat_ev (s : ByteArray) (hs : s.size ≤ 1048576) : Ev (fun k => trivetref08_Pattern.f k s) (patB s.data.toList) := by
  have hl : s.data.toList.length = s.size := (Lib.size_eq s).symm
  unfold patB
  by_cases h : s.size ≤ 64
  · refine Ev.congr (f := fun k => (trivetref08_Words.f k s 46).bind fun t => trivetref08_Pattern.l0 k t t (t.length : Int) 0) (fun k => ?_) ?_
    · unfold trivetref08_Pattern.f; rw [if_neg (by omega)]
    · refine Ev.bind (words_ev s hs) ?_
      rw [bas_length]
      have := refpat_loop _ (short_words s hs) (words s.data.toList).length 0 (by omega)
      rw [List.drop_zero, Bool.and_comm] at this
      rw [decide_eq_true (by omega : s.data.toList.length ≤ 64), Bool.true_and]
      exact this
  · refine Ev.congr (f := fun k => some false) (fun k => ?_) ?_
    · unfold trivetref08_Pattern.f; rw [if_pos (by omega)]
    · rw [decide_eq_false (by omega : ¬ s.data.toList.length ≤ 64), Bool.false_and]
      exact Ev.now _

theorem word_now (w : List UInt8) : topic_word.f ⟨w.toArray⟩ = some (isName w) := word_is ⟨w.toArray⟩
theorem pat_loop (s : ByteArray) (p : List (List UInt8)) (hp : Short p) (d : Nat) : ∀ i : Nat, i + d = p.length →
    Ev (fun k => topic_Pattern.l0 k s (bas p) (bas p) (p.length : Int) (i : Int)) (patW (p.drop i) && (decide (s.size ≤ 64) && decide (p.length ≤ 8))) := by
  have hpl := hp.1
  induction d with
  | zero =>
    intro i hi
    refine Ev.step (f := fun k => some (decide (s.size ≤ 64) && decide (p.length ≤ 8))) (fun k => ?_) ?_
    · simp only [topic_Pattern.l0]
      rw [if_neg (by omega), bas_length]
      by_cases h : s.size ≤ 64
      · rw [if_pos (by omega), decide_eq_true h, Bool.true_and]
        congr 1
        rw [Bool.eq_iff_iff, decide_eq_true_iff, decide_eq_true_iff]; omega
      · rw [if_neg (by omega), decide_eq_false h, Bool.false_and]
    · rw [List.drop_of_length_le (by omega)]
      exact Ev.now _
  | succ d ih =>
    intro i hi
    have hlt : i < p.length := by omega
    have IH := ih (i + 1) (by omega)
    refine Ev.step (f := fun k => if isName p[i] = true then topic_Pattern.l0 k s (bas p) (bas p) (p.length : Int) ((i + 1 : Nat) : Int) else if p[i] = [42] then topic_Pattern.l0 k s (bas p) (bas p) (p.length : Int) ((i + 1 : Nat) : Int) else if p[i] = [35] then (if (i : Int) = (p.length : Int) - 1 then topic_Pattern.l0 k s (bas p) (bas p) (p.length : Int) ((i + 1 : Nat) : Int) else some false) else some false) (fun k => ?_) ?_
    · simp only [topic_Pattern.l0]
      rw [if_pos (by omega), if_pos (by omega), if_pos (by rw [bas_length]; omega), rd_list p i hlt, rd_bas p i hlt, wsucc i (by omega), bas_length, wpred _ (by omega), word_now, Option.bind_some]
    · rw [patW_drop p i hlt]
      generalize p[i] = w at *
      by_cases h : isName w = true
      · simp only [h, if_true, Bool.true_or, Bool.true_and]; exact IH
      · simp only [h, Bool.false_eq_true, if_false, Bool.false_or]
        by_cases h42 : w = [42]
        · subst h42
          simp only [if_true, beq_self_eq_true, Bool.true_or, Bool.true_and]
          exact IH
        · have e1 : (w == [42]) = false := by simpa using h42
          simp only [h42, if_false, e1, Bool.false_or]
          by_cases h35 : w = [35]
          · subst h35
            simp only [if_true, beq_self_eq_true, Bool.true_and]
            by_cases hlast : i + 1 = p.length
            · have : (i : Int) = (p.length : Int) - 1 := by omega
              simp only [this, if_true, hlast, decide_true, Bool.true_and] at *
              exact IH
            · have : ¬ ((i : Int) = (p.length : Int) - 1) := by omega
              simp only [this, if_false, hlast, decide_false, Bool.false_and]
              exact Ev.now _
          · have e0 : (w == [35]) = false := by simpa using h35
            simp only [h35, if_false, e0, Bool.false_and]
            exact Ev.now _
theorem split_now (s : ByteArray) (hs : s.size ≤ 1048576) : strings_Split.f s ⟨#[46]⟩ = some (bas (words s.data.toList)) := by
  unfold strings_Split.f; rw [if_pos ⟨rfl, by omega⟩]
theorem pat_ev (s : ByteArray) (hs : s.size ≤ 1048576) : Ev (fun k => topic_Pattern.f k s) (patB s.data.toList) := by
  have hl : s.data.toList.length = s.size := (Lib.size_eq s).symm
  refine Ev.congr (f := fun k => topic_Pattern.l0 k s (bas (words s.data.toList)) (bas (words s.data.toList)) ((words s.data.toList).length : Int) 0) (fun k => ?_) ?_
  · unfold topic_Pattern.f; rw [split_now s hs, Option.bind_some, bas_length]
  · have := pat_loop s _ (short_words s hs) (words s.data.toList).length 0 (by omega)
    rw [List.drop_zero, Bool.and_comm, Bool.and_assoc, ← hl] at this
    exact this
end Go.Proofs.YtednegmjjjdinaaDoor.U
