/- What the printed functions on topics come to, said of lists of bytes: Match, Covers; wakes. -/
import Derived.Test.YtednegmjjjdinaaDoorU1
namespace Go.Proofs.YtednegmjjjdinaaDoor.U
open Go.RowKit Go.Proofs.YtednegmjjjdinaaDoorW.PrintWords Go.Proofs.YtednegmjjjdinaaDoorW.PrintLast Go.Proofs.YtednegmjjjdinaaDoor.Q Go.Proofs.YtednegmjjjdinaaDoor.QW Go.Proofs.YtednegmjjjdinaaDoor.Ext Go.Proofs.YtednegmjjjdinaaDoor.M

theorem withinB_hash (w : List UInt8) (p t : List (List UInt8)) (h : w = [35]) : withinB (w :: p) t = true := by
  rw [withinB.eq_def]; simp [h]
theorem withinB_nil (w : List UInt8) (p : List (List UInt8)) (h : ¬ w = [35]) : withinB (w :: p) [] = false := by
  rw [withinB.eq_def]; simp [h]
theorem withinB_cons (w u : List UInt8) (p t : List (List UInt8)) (h : ¬ w = [35]) : withinB (w :: p) (u :: t) = ((w == [42] || w == u) && withinB p t) := by
  rw [withinB.eq_def]; simp only [h, if_false]
theorem overB_hash (w : List UInt8) (p t : List (List UInt8)) (h : w = [35]) : overB (w :: p) t = true := by
  rw [overB.eq_def]; simp [h]
theorem overB_nil (w : List UInt8) (p : List (List UInt8)) (h : ¬ w = [35]) : overB (w :: p) [] = false := by
  rw [overB.eq_def]; simp [h]
theorem overB_cons (w u : List UInt8) (p t : List (List UInt8)) (h : ¬ w = [35]) : overB (w :: p) (u :: t) = (!(u == [35]) && ((w == [42] || w == u) && overB p t)) := by
  rw [overB.eq_def]; simp only [h, if_false]
theorem bas_drop1 (w : List UInt8) (p : List (List UInt8)) : (bas (w :: p)).drop 1 = bas p := by simp [bas]
theorem rd_zero (w : List UInt8) (p : List (List UInt8)) : (rdOf ByteArray.empty (bas (w :: p)) 0).toList = w := rd_list (w :: p) 0 (by simp)

theorem within_ev (p : List (List UInt8)) : ∀ t, Ev (fun k => trivetref08_within.f k (bas p) (bas t)) (withinB p t) := by
  induction p with
  | nil =>
    intro t
    refine Ev.step (f := fun k => some (withinB [] t)) (fun k => ?_) (Ev.now _)
    simp only [trivetref08_within.f, bas_length]
    rw [if_pos (by simp)]
    congr 1
    rw [withinB, Bool.eq_iff_iff, beq_iff_eq, List.isEmpty_iff]
    constructor
    · intro h; exact List.length_eq_zero_iff.1 (by omega)
    · rintro rfl; rfl
  | cons w p ih =>
    intro t
    have hl : (bas (w :: p)).length = p.length + 1 := by rw [bas_length]; simp
    by_cases h35 : w = [35]
    · refine Ev.step (f := fun k => some true) (fun k => ?_) ?_
      · simp only [trivetref08_within.f]
        rw [if_neg (by omega), if_pos (by omega), rd_zero, if_pos h35]
      · rw [withinB_hash w p t h35]; exact Ev.now _
    · cases t with
      | nil =>
        rw [withinB_nil w p h35]
        refine Ev.step (f := fun k => some false) (fun k => ?_) (Ev.now _)
        simp only [trivetref08_within.f]
        rw [if_neg (by omega), if_pos (by omega), rd_zero, if_neg h35, if_neg (by rw [bas_length]; simp)]
      | cons u t =>
        have ht : (bas (u :: t)).length = t.length + 1 := by rw [bas_length]; simp
        have step : ∀ k, trivetref08_within.f (k + 1) (bas (w :: p)) (bas (u :: t)) = if (w == [42] || w == u) = true then trivetref08_within.f k (bas p) (bas t) else some false := by
          intro k
          simp only [trivetref08_within.f]
          rw [if_neg (by omega), if_pos (by omega), rd_zero, if_neg h35, if_pos (by omega)]
          by_cases h42 : w = [42]
          · rw [if_pos h42, if_pos (by omega), if_pos (by omega), bas_drop1, bas_drop1]
            rw [if_pos (by simp [h42])]
            cases trivetref08_within.f k (bas p) (bas t) <;> rfl
          · rw [if_neg h42, if_pos (by omega), rd_zero]
            by_cases hu : w = u
            · rw [if_pos hu, if_pos (by omega), if_pos (by omega), bas_drop1, bas_drop1, if_pos (by simp [hu])]
              cases trivetref08_within.f k (bas p) (bas t) <;> rfl
            · rw [if_neg hu, if_neg (by simp [h42, hu])]
        refine Ev.step step ?_
        rw [withinB_cons w u p t h35]
        by_cases hc : (w == [42] || w == u) = true
        · simp only [hc, if_true, Bool.true_and]; exact ih t
        · simp only [hc, Bool.false_eq_true, if_false, Bool.false_and]; exact Ev.now _
theorem over_ev (p : List (List UInt8)) : ∀ t, Ev (fun k => trivetref08_over.f k (bas p) (bas t)) (overB p t) := by
  induction p with
  | nil =>
    intro t
    refine Ev.step (f := fun k => some (overB [] t)) (fun k => ?_) (Ev.now _)
    simp only [trivetref08_over.f, bas_length]
    rw [if_pos (by simp)]
    congr 1
    rw [overB, Bool.eq_iff_iff, beq_iff_eq, List.isEmpty_iff]
    constructor
    · intro h; exact List.length_eq_zero_iff.1 (by omega)
    · rintro rfl; rfl
  | cons w p ih =>
    intro t
    have hl : (bas (w :: p)).length = p.length + 1 := by rw [bas_length]; simp
    by_cases h35 : w = [35]
    · refine Ev.step (f := fun k => some true) (fun k => ?_) ?_
      · simp only [trivetref08_over.f]
        rw [if_neg (by omega), if_pos (by omega), rd_zero, if_pos h35]
      · rw [overB_hash w p t h35]; exact Ev.now _
    · cases t with
      | nil =>
        rw [overB_nil w p h35]
        refine Ev.step (f := fun k => some false) (fun k => ?_) (Ev.now _)
        simp only [trivetref08_over.f]
        rw [if_neg (by omega), if_pos (by omega), rd_zero, if_neg h35, if_neg (by rw [bas_length]; simp)]
      | cons u t =>
        have ht : (bas (u :: t)).length = t.length + 1 := by rw [bas_length]; simp
        have step : ∀ k, trivetref08_over.f (k + 1) (bas (w :: p)) (bas (u :: t)) = if (!(u == [35]) && (w == [42] || w == u)) = true then trivetref08_over.f k (bas p) (bas t) else some false := by
          intro k
          simp only [trivetref08_over.f]
          rw [if_neg (by omega), if_pos (by omega), rd_zero, if_neg h35, if_pos (by omega), if_pos (by omega), rd_zero]
          by_cases hu35 : u = [35]
          · rw [if_pos hu35, if_neg (by simp [hu35])]
          · rw [if_neg hu35]
            have e : (!(u == [35])) = true := by simp [hu35]
            rw [e, Bool.true_and]
            by_cases h42 : w = [42]
            · rw [if_pos h42, if_pos (by omega), if_pos (by omega), bas_drop1, bas_drop1]
              rw [if_pos (by simp [h42])]
              cases trivetref08_over.f k (bas p) (bas t) <;> rfl
            · rw [if_neg h42]
              by_cases hu : w = u
              · rw [if_pos hu, if_pos (by omega), if_pos (by omega), bas_drop1, bas_drop1, if_pos (by simp [hu])]
                cases trivetref08_over.f k (bas p) (bas t) <;> rfl
              · rw [if_neg hu, if_neg (by simp [h42, hu])]
        refine Ev.step step ?_
        rw [overB_cons w u p t h35, ← Bool.and_assoc]
        by_cases hc : (!(u == [35]) && (w == [42] || w == u)) = true
        · simp only [hc, if_true, Bool.true_and]; exact ih t
        · simp only [hc, Bool.false_eq_true, if_false, Bool.false_and]; exact Ev.now _

theorem refmatch_ev (a b : ByteArray) (ha : a.size ≤ 1048576) (hb : b.size ≤ 1048576) : Ev (fun k => trivetref08_Match.f k a b) (matchB a.data.toList b.data.toList) := by
  unfold matchB
  refine Ev.congr (fun k => by unfold trivetref08_Match.f; rfl) (Ev.bind (refpat_ev a ha) ?_)
  cases patB a.data.toList
  · exact Ev.now _
  · refine Ev.bind (refgood_ev b hb) ?_
    cases M.goodB b.data.toList
    · exact Ev.now _
    · refine Ev.bind (words_ev a ha) (Ev.bind (words_ev b hb) (Ev.bind (within_ev _ _) ?_))
      exact Ev.now _
theorem refcover_ev (a b : ByteArray) (ha : a.size ≤ 1048576) (hb : b.size ≤ 1048576) : Ev (fun k => trivetref08_Covers.f k a b) (coverB a.data.toList b.data.toList) := by
  unfold coverB
  refine Ev.congr (fun k => by unfold trivetref08_Covers.f; rfl) (Ev.bind (refpat_ev a ha) ?_)
  cases patB a.data.toList
  · exact Ev.now _
  · refine Ev.bind (refpat_ev b hb) ?_
    cases patB b.data.toList
    · exact Ev.now _
    · refine Ev.bind (words_ev a ha) (Ev.bind (words_ev b hb) (Ev.bind (over_ev _ _) ?_))
      exact Ev.now _

theorem match_loop (p t : List (List UInt8)) (_hp : p.length ≤ 1048577) (ht : t.length ≤ 1048577) (d : Nat) : ∀ i : Nat, i + d = p.length → i ≤ t.length →
    Ev (fun k => topic_Match.l0 k (bas p) (bas t) (bas p) (p.length : Int) (i : Int)) (withinB (p.drop i) (t.drop i)) := by
  induction d with
  | zero =>
    intro i hi hit
    refine Ev.step (f := fun k => some (withinB (p.drop i) (t.drop i))) (fun k => ?_) (Ev.now _)
    simp only [topic_Match.l0]
    rw [if_neg (by omega), bas_length, bas_length, List.drop_of_length_le (by omega : p.length ≤ i), withinB]
    congr 1
    rw [Bool.eq_iff_iff, beq_iff_eq, List.isEmpty_iff, List.drop_eq_nil_iff]
    omega
  | succ d ih =>
    intro i hi hit
    have hlt : i < p.length := by omega
    rw [List.drop_eq_getElem_cons hlt]
    by_cases h35 : p[i] = [35]
    · refine Ev.step (f := fun k => some true) (fun k => ?_) ?_
      · simp only [topic_Match.l0]
        rw [if_pos (by omega), if_pos (by omega), if_pos (by rw [bas_length]; omega), rd_list p i hlt, if_pos h35]
      · rw [withinB_hash _ _ _ h35]; exact Ev.now _
    · by_cases hti : i < t.length
      · rw [List.drop_eq_getElem_cons hti]
        have step : ∀ k, topic_Match.l0 (k + 1) (bas p) (bas t) (bas p) (p.length : Int) (i : Int) = if (p[i] == [42] || p[i] == t[i]) = true then topic_Match.l0 k (bas p) (bas t) (bas p) (p.length : Int) ((i + 1 : Nat) : Int) else some false := by
          intro k
          simp only [topic_Match.l0]
          rw [if_pos (by omega), if_pos (by omega), if_pos (by rw [bas_length]; omega), rd_list p i hlt, if_neg h35, if_neg (by rw [bas_length]; omega), wsucc i (by omega)]
          by_cases h42 : p[i] = [42]
          · rw [if_pos h42, if_pos (by simp [h42])]
          · rw [if_neg h42, if_pos (by rw [bas_length]; omega), rd_list t i hti]
            by_cases hu : p[i] = t[i]
            · rw [if_pos hu, if_pos (by simp [hu])]
            · rw [if_neg hu, if_neg (by simp [h42, hu])]
        refine Ev.step step ?_
        rw [withinB_cons _ _ _ _ h35]
        by_cases hc : (p[i] == [42] || p[i] == t[i]) = true
        · simp only [hc, if_true, Bool.true_and]; exact ih (i + 1) (by omega) (by omega)
        · simp only [hc, Bool.false_eq_true, if_false, Bool.false_and]; exact Ev.now _
      · rw [List.drop_of_length_le (by omega : t.length ≤ i), withinB_nil _ _ h35]
        refine Ev.step (f := fun k => some false) (fun k => ?_) (Ev.now _)
        simp only [topic_Match.l0]
        rw [if_pos (by omega), if_pos (by omega), if_pos (by rw [bas_length]; omega), rd_list p i hlt, if_neg h35, if_pos (by rw [bas_length]; omega)]
theorem cover_loop (p t : List (List UInt8)) (_hp : p.length ≤ 1048577) (ht : t.length ≤ 1048577) (d : Nat) : ∀ i : Nat, i + d = p.length → i ≤ t.length →
    Ev (fun k => topic_Covers.l0 k (bas p) (bas t) (bas p) (p.length : Int) (i : Int)) (overB (p.drop i) (t.drop i)) := by
  induction d with
  | zero =>
    intro i hi hit
    refine Ev.step (f := fun k => some (overB (p.drop i) (t.drop i))) (fun k => ?_) (Ev.now _)
    simp only [topic_Covers.l0]
    rw [if_neg (by omega), bas_length, bas_length, List.drop_of_length_le (by omega : p.length ≤ i), overB]
    congr 1
    rw [Bool.eq_iff_iff, beq_iff_eq, List.isEmpty_iff, List.drop_eq_nil_iff]
    omega
  | succ d ih =>
    intro i hi hit
    have hlt : i < p.length := by omega
    rw [List.drop_eq_getElem_cons hlt]
    by_cases h35 : p[i] = [35]
    · refine Ev.step (f := fun k => some true) (fun k => ?_) ?_
      · simp only [topic_Covers.l0]
        rw [if_pos (by omega), if_pos (by omega), if_pos (by rw [bas_length]; omega), rd_list p i hlt, if_pos h35]
      · rw [overB_hash _ _ _ h35]; exact Ev.now _
    · by_cases hti : i < t.length
      · rw [List.drop_eq_getElem_cons hti]
        have step : ∀ k, topic_Covers.l0 (k + 1) (bas p) (bas t) (bas p) (p.length : Int) (i : Int) = if (!(t[i] == [35]) && (p[i] == [42] || p[i] == t[i])) = true then topic_Covers.l0 k (bas p) (bas t) (bas p) (p.length : Int) ((i + 1 : Nat) : Int) else some false := by
          intro k
          simp only [topic_Covers.l0]
          rw [if_pos (by omega), if_pos (by omega), if_pos (by rw [bas_length]; omega), rd_list p i hlt, if_neg h35, if_neg (by rw [bas_length]; omega), if_pos (by rw [bas_length]; omega), rd_list t i hti, wsucc i (by omega)]
          by_cases hu35 : t[i] = [35]
          · rw [if_pos hu35, if_neg (by simp [hu35])]
          · rw [if_neg hu35]
            have e : (!(t[i] == [35])) = true := by simp [hu35]
            rw [e, Bool.true_and]
            by_cases h42 : p[i] = [42]
            · rw [if_pos h42, if_pos (by simp [h42])]
            · rw [if_neg h42]
              by_cases hu : p[i] = t[i]
              · rw [if_pos hu, if_pos (by simp [hu])]
              · rw [if_neg hu, if_neg (by simp [h42, hu])]
        refine Ev.step step ?_
        rw [overB_cons _ _ _ _ h35, ← Bool.and_assoc]
        by_cases hc : (!(t[i] == [35]) && (p[i] == [42] || p[i] == t[i])) = true
        · simp only [hc, if_true, Bool.true_and]; exact ih (i + 1) (by omega) (by omega)
        · simp only [hc, Bool.false_eq_true, if_false, Bool.false_and]; exact Ev.now _
      · rw [List.drop_of_length_le (by omega : t.length ≤ i), overB_nil _ _ h35]
        refine Ev.step (f := fun k => some false) (fun k => ?_) (Ev.now _)
        simp only [topic_Covers.l0]
        rw [if_pos (by omega), if_pos (by omega), if_pos (by rw [bas_length]; omega), rd_list p i hlt, if_neg h35, if_pos (by rw [bas_length]; omega)]

theorem match_ev (a b : ByteArray) (ha : a.size ≤ 1048576) (hb : b.size ≤ 1048576) : Ev (fun k => topic_Match.f k a b) (matchB a.data.toList b.data.toList) := by
  have sa := (short_words a ha).1
  have sb := (short_words b hb).1
  have hj : Ev (fun k => topic_Match.j0 k a b false) (withinB (words a.data.toList) (words b.data.toList)) := by
    refine Ev.step (f := fun k => topic_Match.l0 k (bas (words a.data.toList)) (bas (words b.data.toList)) (bas (words a.data.toList)) ((words a.data.toList).length : Int) 0) (fun k => ?_) ?_
    · simp only [topic_Match.j0, Bool.false_eq_true, if_false]
      rw [split_now a ha, split_now b hb, Option.bind_some, Option.bind_some, bas_length]
    · have := match_loop _ _ sa sb (words a.data.toList).length 0 (by omega) (by omega)
      rw [List.drop_zero, List.drop_zero] at this
      exact this
  have hj2 : Ev (fun k => topic_Match.j0 k a b true) false := Ev.step (f := fun k => some false) (fun k => by simp only [topic_Match.j0, if_true]) (Ev.now _)
  unfold matchB
  refine Ev.congr (fun k => by unfold topic_Match.f; rw [good_now b hb, Option.bind_some]) (Ev.bind (pat_ev a ha) ?_)
  cases patB a.data.toList
  · simp only [Bool.false_eq_true, if_false, Bool.false_and]; exact hj2
  · simp only [if_true, Bool.true_and]
    cases M.goodB b.data.toList
    · exact hj2
    · exact hj
theorem cover_ev (a b : ByteArray) (ha : a.size ≤ 1048576) (hb : b.size ≤ 1048576) : Ev (fun k => topic_Covers.f k a b) (coverB a.data.toList b.data.toList) := by
  have sa := (short_words a ha).1
  have sb := (short_words b hb).1
  have hj : Ev (fun k => topic_Covers.j0 k a b false) (overB (words a.data.toList) (words b.data.toList)) := by
    refine Ev.step (f := fun k => topic_Covers.l0 k (bas (words a.data.toList)) (bas (words b.data.toList)) (bas (words a.data.toList)) ((words a.data.toList).length : Int) 0) (fun k => ?_) ?_
    · simp only [topic_Covers.j0, Bool.false_eq_true, if_false]
      rw [split_now a ha, split_now b hb, Option.bind_some, Option.bind_some, bas_length]
    · have := cover_loop _ _ sa sb (words a.data.toList).length 0 (by omega) (by omega)
      rw [List.drop_zero, List.drop_zero] at this
      exact this
  have hj2 : Ev (fun k => topic_Covers.j0 k a b true) false := Ev.step (f := fun k => some false) (fun k => by simp only [topic_Covers.j0, if_true]) (Ev.now _)
  unfold coverB
  refine Ev.congr (fun k => by unfold topic_Covers.f; rfl) (Ev.bind (pat_ev a ha) ?_)
  cases patB a.data.toList
  · simp only [Bool.false_eq_true, if_false, Bool.false_and]; exact hj2
  · simp only [if_true, Bool.true_and]
    refine Ev.bind (pat_ev b hb) ?_
    cases patB b.data.toList
    · exact hj2
    · exact hj

/-! ### wakes -/
theorem slashes_wake : Ev (fun k => topic_Slashes.f k ⟨#[97, 46, 42, 46, 35]⟩) (⟨#[97, 47, 43, 47, 35]⟩, 0) := by
  refine Ev.congr (fun k => by unfold topic_Slashes.f; rfl) (Ev.bind (pat_ev ⟨#[97, 46, 42, 46, 35]⟩ (by decide)) ?_)
  have e : patB (⟨#[97, 46, 42, 46, 35]⟩ : ByteArray).data.toList = true := by decide
  have e2 : topic_turned.f ⟨#[97, 46, 42, 46, 35]⟩ ⟨#[46, 42]⟩ ⟨#[47, 43]⟩ = some ⟨#[97, 47, 43, 47, 35]⟩ := by decide +kernel
  simp only [e, if_true, e2, Option.bind_some]
  exact Ev.now _
theorem wakes_ev : Ev (fun k => trivetlaw08_wakes.f k) true := by
  refine Ev.congr (fun k => by unfold trivetlaw08_wakes.f; rfl) (Ev.bind slashes_wake (Ev.bind (match_ev ⟨#[97, 46, 35]⟩ ⟨#[97]⟩ (by decide) (by decide)) ?_))
  have e1 : matchB (⟨#[97, 46, 35]⟩ : ByteArray).data.toList (⟨#[97]⟩ : ByteArray).data.toList = true := by decide
  have e2 : matchB (⟨#[97, 46, 42]⟩ : ByteArray).data.toList (⟨#[97]⟩ : ByteArray).data.toList = false := by decide
  simp only [e1, if_true]
  refine Ev.bind (match_ev ⟨#[97, 46, 42]⟩ ⟨#[97]⟩ (by decide) (by decide)) ?_
  simp only [e2, Bool.false_eq_true, if_false]
  have e3 : ((⟨#[97, 47, 43, 47, 35]⟩ : ByteArray).toList == ([97, 47, 43, 47, 35] : List UInt8)) = true := by rw [Lib.toList_data]; decide
  rw [e3]
  exact Ev.now _
end Go.Proofs.YtednegmjjjdinaaDoor.U
