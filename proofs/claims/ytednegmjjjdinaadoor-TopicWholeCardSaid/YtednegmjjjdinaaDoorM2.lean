/- Plain laws on patterns and topics as lists of words. No program in sight. -/
import Derived.Test.YtednegmjjjdinaaDoorM1
namespace Go.Proofs.YtednegmjjjdinaaDoor.M
open Go

theorem withinB_hash (w : List UInt8) (p t : List (List UInt8)) (h : w = [35]) : withinB (w :: p) t = true := by
  rw [withinB.eq_def]; simp [h]
theorem withinB_nil (w : List UInt8) (p : List (List UInt8)) (h : ¬ w = [35]) : withinB (w :: p) [] = false := by
  rw [withinB.eq_def]; simp [h]
theorem withinB_cons (w u : List UInt8) (p t : List (List UInt8)) (h : ¬ w = [35]) : withinB (w :: p) (u :: t) = ((w == [42] || w == u) && withinB p t) := by
  rw [withinB.eq_def]; simp only [h, if_false]
theorem overB_hash (w : List UInt8) (p t : List (List UInt8)) (h : w = [35]) : overB (w :: p) t = true := by
  rw [overB.eq_def]; simp [h]
theorem overB_nil (w : List UInt8) (p : List (List UInt8)) (h : ¬ w = [35]) : overB (w :: p) [] = false := by
  rw [overB.eq_def]; simp [h]
theorem overB_cons (w u : List UInt8) (p t : List (List UInt8)) (h : ¬ w = [35]) : overB (w :: p) (u :: t) = (!(u == [35]) && ((w == [42] || w == u) && overB p t)) := by
  rw [overB.eq_def]; simp only [h, if_false]

theorem over_self (p : List (List UInt8)) : overB p p = true := by
  induction p with
  | nil => rfl
  | cons w p ih =>
    by_cases h : w = [35]
    · exact overB_hash w p _ h
    · rw [overB_cons w w p p h, ih]; simp [h]
theorem over_inv {w : List UInt8} {p q : List (List UInt8)} (hw : ¬ w = [35]) (h : overB (w :: p) q = true) : ∃ u q', q = u :: q' ∧ u ≠ [35] ∧ (w = [42] ∨ w = u) ∧ overB p q' = true := by
  cases q with
  | nil => rw [overB_nil w p hw] at h; cases h
  | cons u q' =>
    rw [overB_cons w u p q' hw] at h
    simp at h
    exact ⟨u, q', rfl, h.1, h.2.1, h.2.2⟩
theorem within_inv {w : List UInt8} {p q : List (List UInt8)} (hw : ¬ w = [35]) (h : withinB (w :: p) q = true) : ∃ u q', q = u :: q' ∧ (w = [42] ∨ w = u) ∧ withinB p q' = true := by
  cases q with
  | nil => rw [withinB_nil w p hw] at h; cases h
  | cons u q' =>
    rw [withinB_cons w u p q' hw] at h
    simp at h
    exact ⟨u, q', rfl, h.1, h.2⟩
theorem over_within (p : List (List UInt8)) : ∀ q t, overB p q = true → withinB q t = true → withinB p t = true := by
  induction p with
  | nil =>
    intro q t h1 h2
    cases q with
    | nil => exact h2
    | cons _ _ => simp [overB] at h1
  | cons w p ih =>
    intro q t h1 h2
    by_cases hw : w = [35]
    · exact withinB_hash w p t hw
    · obtain ⟨u, q', rfl, hu, hwu, ho⟩ := over_inv hw h1
      obtain ⟨v, t', rfl, huv, ht⟩ := within_inv hu h2
      rw [withinB_cons w v p t' hw, ih q' t' ho ht]
      rcases hwu with rfl | rfl
      · simp
      · rcases huv with rfl | rfl
        · simp
        · simp
theorem over_trans (p : List (List UInt8)) : ∀ q t, overB p q = true → overB q t = true → overB p t = true := by
  induction p with
  | nil =>
    intro q t h1 h2
    cases q with
    | nil => exact h2
    | cons _ _ => simp [overB] at h1
  | cons w p ih =>
    intro q t h1 h2
    by_cases hw : w = [35]
    · exact overB_hash w p t hw
    · obtain ⟨u, q', rfl, hu, hwu, ho⟩ := over_inv hw h1
      obtain ⟨v, t', rfl, hv, huv, ht⟩ := over_inv hu h2
      rw [overB_cons w v p t' hw, ih q' t' ho ht]
      have hv' : (v == [35]) = false := by simpa using hv
      rw [hv']
      rcases hwu with rfl | rfl
      · simp
      · rcases huv with rfl | rfl
        · simp
        · simp

theorem name_ne (w : List UInt8) (h : isName w = true) : w ≠ [35] ∧ w ≠ [42] ∧ w ≠ [] := by
  refine ⟨?_, ?_, ?_⟩ <;> rintro rfl <;> revert h <;> decide
/-- Of words of a topic alone: a topic is one of itself, and of no other. -/
theorem within_names (p : List (List UInt8)) (hp : p.all isName = true) : ∀ t, withinB p t = decide (p = t) := by
  induction p with
  | nil => intro t; cases t <;> simp [withinB]
  | cons w p ih =>
    intro t
    simp only [List.all_cons, Bool.and_eq_true] at hp
    obtain ⟨n1, n2, _⟩ := name_ne w hp.1
    cases t with
    | nil => rw [withinB_nil w p n1]; simp
    | cons u t =>
      rw [withinB_cons w u p t n1, ih hp.2 t]
      have e : (w == [42]) = false := by simpa using n2
      rw [e, Bool.false_or, Bool.eq_iff_iff]
      simp
theorem over_names (p : List (List UInt8)) (hp : p.all isName = true) : ∀ t, t.all isName = true → overB p t = decide (p = t) := by
  induction p with
  | nil => intro t _; cases t <;> simp [overB]
  | cons w p ih =>
    intro t ht
    simp only [List.all_cons, Bool.and_eq_true] at hp
    obtain ⟨n1, n2, _⟩ := name_ne w hp.1
    cases t with
    | nil => rw [overB_nil w p n1]; simp
    | cons u t =>
      simp only [List.all_cons, Bool.and_eq_true] at ht
      obtain ⟨m1, _, _⟩ := name_ne u ht.1
      rw [overB_cons w u p t n1, ih hp.2 t ht.2]
      have e : (w == [42]) = false := by simpa using n2
      have e2 : (u == [35]) = false := by simpa using m1
      rw [e, e2, Bool.false_or, Bool.not_false, Bool.true_and, Bool.eq_iff_iff]
      simp
theorem patW_names (p : List (List UInt8)) (hp : p.all isName = true) : patW p = true := by
  induction p with
  | nil => rfl
  | cons w p ih =>
    simp only [List.all_cons, Bool.and_eq_true] at hp
    rw [patW, ih hp.2, hp.1]; rfl
theorem good_iff (l : List UInt8) : goodB l = true ↔ l.length ≤ 64 ∧ (words l).length ≤ 8 ∧ (words l).all isName = true := by
  simp [goodB]
theorem pat_iff (l : List UInt8) : patB l = true ↔ l.length ≤ 64 ∧ (words l).length ≤ 8 ∧ patW (words l) = true := by
  simp [patB]
theorem good_pat (l : List UInt8) (h : goodB l = true) : patB l = true := by
  obtain ⟨h1, h2, h3⟩ := (good_iff l).1 h
  exact (pat_iff l).2 ⟨h1, h2, patW_names _ h3⟩

/-! ### the laws -/
theorem cover_self (l : List UInt8) : coverB l l = patB l := by
  unfold coverB; rw [over_self]; cases patB l <;> rfl
theorem cover_match (a b c : List UInt8) (h : coverB a b = true) (h2 : matchB b c = true) : matchB a c = true := by
  unfold coverB at h; unfold matchB at h2 ⊢
  simp only [Bool.and_eq_true] at h h2 ⊢
  exact ⟨h.1, h2.2.1, over_within _ _ _ h.2.2 h2.2.2⟩
theorem cover_cover (a b c : List UInt8) (h : coverB a b = true) (h2 : coverB b c = true) : coverB a c = true := by
  unfold coverB at h h2 ⊢
  simp only [Bool.and_eq_true] at h h2 ⊢
  exact ⟨h.1, h2.2.1, over_trans _ _ _ h.2.2 h2.2.2⟩
theorem hash_covers (a : List UInt8) : coverB [35] a = patB a := by
  have : patB [35] = true := by decide
  have e : words [35] = [[35]] := by decide
  unfold coverB; rw [this, e, overB_hash _ _ _ rfl]; simp
theorem hash_match (a : List UInt8) : matchB [35] a = goodB a := by
  have : patB [35] = true := by decide
  have e : words [35] = [[35]] := by decide
  unfold matchB; rw [this, e, withinB_hash _ _ _ rfl]; simp
theorem words_single (a : List UInt8) : (words a).length = 1 ↔ ∀ x ∈ a, x ≠ 46 := by
  constructor
  · intro h x hx
    rcases dot_cases a with hd | ⟨u, v, rfl, hu⟩
    · exact hd x hx
    · rw [words_app u hu] at h
      have := words_ne v
      simp at h
      exact absurd h this
  · intro h; rw [words_nodot a h]; rfl
theorem star_match (a : List UInt8) : matchB [42] a = (goodB a && a.all fun x => x != 46) := by
  have : patB [42] = true := by decide
  have e : words [42] = [[42]] := by decide
  unfold matchB
  rw [this, e, Bool.true_and]
  congr 1
  have hs := words_single a
  cases hw : words a with
  | nil => exact absurd hw (words_ne a)
  | cons u t =>
    rw [withinB_cons _ _ _ _ (by decide), Bool.eq_iff_iff]
    rw [hw] at hs
    simp only [List.length_cons] at hs
    simp only [List.all_eq_true, bne_iff_ne]
    rw [← hs]
    cases t <;> simp [withinB]
theorem same_match (a b : List UInt8) (ha : goodB a = true) (hb : goodB b = true) : matchB a b = decide (a = b) ∧ coverB a b = decide (a = b) := by
  have h1 := ((good_iff a).1 ha).2.2
  have h2 := ((good_iff b).1 hb).2.2
  have e : decide (words a = words b) = decide (a = b) := by
    rw [Bool.eq_iff_iff, decide_eq_true_iff, decide_eq_true_iff]
    exact ⟨words_inj, fun h => by rw [h]⟩
  unfold matchB coverB
  rw [good_pat a ha, good_pat b hb, hb, within_names _ h1, over_names _ h1 _ h2, e]
  simp

theorem parts_good (a b : List UInt8) (ha : goodB a = true) (hb : goodB b = true) :
    goodB (a ++ 46 :: b) = (decide (a.length + b.length + 1 ≤ 64) && decide ((words a).length + (words b).length ≤ 8)) := by
  have h1 := ((good_iff a).1 ha).2.2
  have h2 := ((good_iff b).1 hb).2.2
  unfold goodB
  rw [words_two, List.all_append, h1, h2]
  simp only [List.length_append, List.length_cons, Bool.and_true]
  rfl
theorem within_prefix (p : List (List UInt8)) (hp : p.all isName = true) (t : List (List UInt8)) : withinB (p ++ [[35]]) (p ++ t) = true := by
  induction p with
  | nil => exact withinB_hash _ _ _ rfl
  | cons w p ih =>
    simp only [List.all_cons, Bool.and_eq_true] at hp
    rw [List.cons_append, List.cons_append, withinB_cons _ _ _ _ (name_ne w hp.1).1, ih hp.2]
    simp
theorem words_hash (a : List UInt8) : words (a ++ [46, 35]) = words a ++ [[35]] := by
  rw [show a ++ [46, 35] = a ++ 46 :: [35] from rfl, words_two]
  have : words [35] = [[35]] := by decide
  rw [this]
theorem parts_match (a b : List UInt8) (ha : goodB a = true) (hab : goodB (a ++ 46 :: b) = true) (hp : patB (a ++ [46, 35]) = true) :
    matchB (a ++ [46, 35]) (a ++ 46 :: b) = true ∧ matchB (a ++ [46, 35]) a = true := by
  have h1 := ((good_iff a).1 ha).2.2
  unfold matchB
  rw [hp, hab, ha, words_hash, words_two, within_prefix _ h1]
  have := within_prefix _ h1 []
  rw [List.append_nil] at this
  rw [this]
  exact ⟨rfl, rfl⟩

/-! ### words put together -/
def inter (l : List (List UInt8)) : List UInt8 := [46].intercalate l
theorem inter_snoc (l : List (List UInt8)) (w : List UInt8) : inter (l ++ [w]) = if l = [] then w else inter l ++ 46 :: w := by
  unfold inter
  induction l with
  | nil => simp [List.intercalate]
  | cons x l ih =>
    cases l with
    | nil => simp [List.intercalate]
    | cons y l =>
      simp [List.intercalate] at ih ⊢
      exact ih
theorem inter_len (l : List (List UInt8)) : (inter l).length + 1 = (l.map fun w => w.length + 1).sum + (if l = [] then 1 else 0) := by
  unfold inter
  induction l with
  | nil => rfl
  | cons x l ih =>
    cases l with
    | nil => simp [List.intercalate]
    | cons y l =>
      simp [List.intercalate] at ih ⊢
      omega
theorem sum_set (l : List (List UInt8)) (i : Nat) (h : i < l.length) (hi : 1 ≤ l[i].length) : ((l.set i [42]).map fun w => w.length + 1).sum ≤ (l.map fun w => w.length + 1).sum := by
  induction l generalizing i with
  | nil => simp at h
  | cons x l ih =>
    cases i with
    | zero => simp at hi ⊢; omega
    | succ i =>
      simp at h hi ⊢
      have := ih i h hi
      simp at this
      exact this
theorem within_set (l : List (List UInt8)) (hl : l.all isName = true) (i : Nat) : withinB (l.set i [42]) l = true := by
  induction l generalizing i with
  | nil => rfl
  | cons x l ih =>
    simp only [List.all_cons, Bool.and_eq_true] at hl
    cases i with
    | zero =>
      rw [List.set_cons_zero, withinB_cons _ _ _ _ (by decide), within_names l hl.2]
      simp
    | succ i =>
      rw [List.set_cons_succ, withinB_cons _ _ _ _ (name_ne x hl.1).1, ih hl.2]
      simp
theorem patW_set (l : List (List UInt8)) (hl : l.all isName = true) (i : Nat) : patW (l.set i [42]) = true := by
  induction l generalizing i with
  | nil => rfl
  | cons x l ih =>
    simp only [List.all_cons, Bool.and_eq_true] at hl
    cases i with
    | zero => rw [List.set_cons_zero, patW, patW_names l hl.2]; simp
    | succ i => rw [List.set_cons_succ, patW, ih hl.2, hl.1]; rfl
theorem patW_hash (l : List (List UInt8)) (hl : l.all isName = true) : patW (l ++ [[35]]) = true := by
  induction l with
  | nil => decide
  | cons x l ih =>
    simp only [List.all_cons, Bool.and_eq_true] at hl
    rw [List.cons_append, patW, ih hl.2, hl.1]; rfl
theorem within_more (l : List (List UInt8)) (hl : l.all isName = true) : withinB (l ++ [[97], [35]]) l = false := by
  induction l with
  | nil => decide
  | cons x l ih =>
    simp only [List.all_cons, Bool.and_eq_true] at hl
    rw [List.cons_append, withinB_cons _ _ _ _ (name_ne x hl.1).1, ih hl.2, Bool.and_false]
theorem nd_star (l : List UInt8) (i : Nat) : ∀ w ∈ (words l).set i [42], ∀ x ∈ w, x ≠ 46 := by
  intro w hw x hx
  rcases List.mem_or_eq_of_mem_set hw with h | rfl
  · exact words_nd l w h x hx
  · simp at hx; subst hx; decide
theorem set_ne {α : Type} (l : List α) (h : l ≠ []) (i : Nat) (a : α) : l.set i a ≠ [] := by
  intro e
  apply h
  have := congrArg List.length e
  simp at this
  exact this
/-- A topic is one of the pattern that has * in place of one of its words. -/
theorem star_ok (s : List UInt8) (hs : goodB s = true) (i : Nat) (hi : i < (words s).length) : matchB (inter ((words s).set i [42])) s = true := by
  obtain ⟨h1, h2, h3⟩ := (good_iff s).1 hs
  have hw : words (inter ((words s).set i [42])) = (words s).set i [42] := words_of _ (set_ne _ (words_ne s) _ _) (nd_star s i)
  have hn := List.all_eq_true.1 h3 _ (List.getElem_mem hi)
  have hlen : 1 ≤ (words s)[i].length := by
    have := (name_ne _ hn).2.2
    cases h : (words s)[i] with
    | nil => exact absurd h this
    | cons _ _ => simp
  have e1 := inter_len ((words s).set i [42])
  have e2 := inter_len (words s)
  have e3 := sum_set (words s) i hi hlen
  rw [if_neg (set_ne _ (words_ne s) _ _)] at e1
  rw [if_neg (words_ne s)] at e2
  have e4 : (inter (words s)).length = s.length := by rw [show inter (words s) = s from words_join s]
  unfold matchB
  rw [hs, hw, within_set _ h3, (pat_iff _).2 ⟨by omega, by rw [hw, List.length_set]; exact h2, by rw [hw]; exact patW_set _ h3 i⟩]
  rfl
theorem take_names (l : List (List UInt8)) (hl : l.all isName = true) (i : Nat) : (l.take i).all isName = true := by
  rw [List.all_eq_true] at hl ⊢
  exact fun x hx => hl x (List.mem_of_mem_take hx)
/-- .. and of its first words and #. -/
theorem hash_ok (s : List UInt8) (hs : goodB s = true) (i : Nat) (hi : i < (words s).length) (hl : (inter ((words s).take i ++ [[35]])).length ≤ 64) : matchB (inter ((words s).take i ++ [[35]])) s = true := by
  obtain ⟨h1, h2, h3⟩ := (good_iff s).1 hs
  have hw : words (inter ((words s).take i ++ [[35]])) = (words s).take i ++ [[35]] := words_of _ (by simp) (by
    intro w hw x hx
    rcases List.mem_append.1 hw with h | h
    · exact words_nd s w (List.mem_of_mem_take h) x hx
    · simp at h; subst h; simp at hx; subst hx; decide)
  unfold matchB
  rw [hs, hw, (pat_iff _).2 ⟨hl, by rw [hw]; simp; omega, by rw [hw]; exact patW_hash _ (take_names _ h3 i)⟩]
  have := within_prefix ((words s).take i) (take_names _ h3 i) ((words s).drop i)
  rw [List.take_append_drop] at this
  rw [this]; rfl
theorem more_no (s : List UInt8) (hs : goodB s = true) : matchB (s ++ [46, 97, 46, 35]) s = false := by
  obtain ⟨h1, h2, h3⟩ := (good_iff s).1 hs
  have hw : words (s ++ [46, 97, 46, 35]) = words s ++ [[97], [35]] := by
    rw [show s ++ [46, 97, 46, 35] = s ++ 46 :: [97, 46, 35] from rfl, words_two]
    have : words [97, 46, 35] = [[97], [35]] := by decide
    rw [this]
  unfold matchB
  rw [hw, within_more _ h3]
  simp
end Go.Proofs.YtednegmjjjdinaaDoor.M
