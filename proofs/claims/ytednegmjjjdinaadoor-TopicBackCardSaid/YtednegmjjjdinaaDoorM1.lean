/- Plain definitions on lists of bytes: patterns, matches, covers; and lemmas on words. No program in sight. -/
import Derived.Test.YtednegmjjjdinaaDoorM
namespace Go.Proofs.YtednegmjjjdinaaDoor.M
open Go

def goodB (l : List UInt8) : Bool := decide (l.length ≤ 64) && (decide ((words l).length ≤ 8) && (words l).all isName)
def patW : List (List UInt8) → Bool
  | [] => true
  | w :: ws => (isName w || (w == [42] || (w == [35] && ws.isEmpty))) && patW ws
def patB (l : List UInt8) : Bool := decide (l.length ≤ 64) && (decide ((words l).length ≤ 8) && patW (words l))
def withinB : List (List UInt8) → List (List UInt8) → Bool
  | [], t => t.isEmpty
  | w :: p, t => if w = [35] then true else match t with
    | [] => false
    | u :: t => (w == [42] || w == u) && withinB p t
def overB : List (List UInt8) → List (List UInt8) → Bool
  | [], t => t.isEmpty
  | w :: p, t => if w = [35] then true else match t with
    | [] => false
    | u :: t => !(u == [35]) && ((w == [42] || w == u) && overB p t)
def matchB (p t : List UInt8) : Bool := patB p && (goodB t && withinB (words p) (words t))
def coverB (p q : List UInt8) : Bool := patB p && (patB q && overB (words p) (words q))

theorem words_snoc_dot (l : List UInt8) : words (l ++ [46]) = words l ++ [[]] := by
  induction l with
  | nil => rfl
  | cons c l ih =>
    by_cases h : c = 46
    · subst h
      rw [List.cons_append, words_dot, words_dot, ih, List.cons_append]
    · obtain ⟨w, ws, h1, h2⟩ := words_cons c l h
      obtain ⟨w', ws', h1', h2'⟩ := words_cons c (l ++ [46]) h
      rw [List.cons_append, h2', h2, List.cons_append]
      rw [ih, h1, List.cons_append] at h1'
      injection h1' with e1 e2
      rw [← e1, ← e2]
theorem words_snoc (l : List UInt8) (c : UInt8) (h : c ≠ 46) : words (l ++ [c]) = (words l).dropLast ++ [(words l).getLastD [] ++ [c]] := by
  induction l with
  | nil => simp [words, h]
  | cons b l ih =>
    have hne := words_ne l
    by_cases hb : b = 46
    · subst hb
      rw [List.cons_append, words_dot, words_dot, ih]
      cases hw : words l with
      | nil => exact absurd hw hne
      | cons w ws => simp
    · obtain ⟨w, ws, h1, h2⟩ := words_cons b l hb
      obtain ⟨w', ws', h1', h2'⟩ := words_cons b (l ++ [c]) hb
      rw [List.cons_append, h2', h2]
      rw [ih, h1] at h1'
      cases ws with
      | nil =>
        simp at h1'
        obtain ⟨rfl, rfl⟩ := h1'
        simp
      | cons x xs =>
        simp at h1'
        obtain ⟨rfl, rfl⟩ := h1'
        simp

theorem words_join (l : List UInt8) : [46].intercalate (words l) = l := by
  induction l with
  | nil => rfl
  | cons c l ih =>
    by_cases h : c = 46
    · subst h
      rw [words_dot]
      cases hw : words l with
      | nil => exact absurd hw (words_ne l)
      | cons w ws => rw [hw] at ih; simp [List.intercalate] at ih ⊢; exact ih
    · obtain ⟨w, ws, h1, h2⟩ := words_cons c l h
      rw [h2]
      rw [h1] at ih
      cases ws with
      | nil => simp [List.intercalate] at ih ⊢; exact ih
      | cons x xs => simp [List.intercalate] at ih ⊢; exact ih
theorem words_inj {a b : List UInt8} (h : words a = words b) : a = b := by
  rw [← words_join a, h, words_join]
theorem words_len (l : List UInt8) : ∀ w ∈ words l, w.length ≤ l.length := by
  induction l with
  | nil => intro w hw; simp [words] at hw; simp [hw]
  | cons c l ih =>
    by_cases h : c = 46
    · subst h; rw [words_dot]
      intro w hw
      rcases List.mem_cons.1 hw with rfl | hw
      · simp
      · have := ih w hw; simp; omega
    · obtain ⟨w0, ws, h1, h2⟩ := words_cons c l h
      rw [h2]; rw [h1] at ih
      intro w hw
      rcases List.mem_cons.1 hw with rfl | hw
      · have := ih w0 (by simp); simp; omega
      · have := ih w (List.mem_cons_of_mem _ hw); simp; omega
theorem set_last {α : Type} (l : List α) (h : l ≠ []) (x : α) : l.set (l.length - 1) x = l.dropLast ++ [x] := by
  induction l with
  | nil => exact absurd rfl h
  | cons a l ih =>
    cases l with
    | nil => simp
    | cons b l =>
      have := ih (by simp)
      simp at this ⊢
      exact this
theorem getLastD_at {α : Type} (l : List α) (_h : l ≠ []) (d : α) (hi : l.length - 1 < l.length) : l.getLastD d = l[l.length - 1] := by
  rw [List.getLastD_eq_getLast?, List.getLast?_eq_getElem?, List.getElem?_eq_getElem hi]
  rfl
/-- A word has no dot. -/
theorem words_nd (l : List UInt8) : ∀ w ∈ words l, ∀ x ∈ w, x ≠ 46 := by
  induction l with
  | nil => intro w hw x hx; simp [words] at hw; subst hw; simp at hx
  | cons c l ih =>
    by_cases h : c = 46
    · subst h; rw [words_dot]
      intro w hw x hx
      rcases List.mem_cons.1 hw with rfl | hw
      · simp at hx
      · exact ih w hw x hx
    · obtain ⟨w0, ws, h1, h2⟩ := words_cons c l h
      rw [h2]; rw [h1] at ih
      intro w hw x hx
      rcases List.mem_cons.1 hw with rfl | hw
      · rcases List.mem_cons.1 hx with rfl | hx
        · exact h
        · exact ih w0 (by simp) x hx
      · exact ih w (List.mem_cons_of_mem _ hw) x hx
/-- The words of words with dots between. -/
theorem words_of (ls : List (List UInt8)) (hne : ls ≠ []) (h : ∀ w ∈ ls, ∀ x ∈ w, x ≠ 46) : words ([46].intercalate ls) = ls := by
  induction ls with
  | nil => exact absurd rfl hne
  | cons w ws ih =>
    cases ws with
    | nil =>
      have : [46].intercalate [w] = w := by simp [List.intercalate]
      rw [this]
      exact words_nodot w (h w (by simp))
    | cons x xs =>
      have : [46].intercalate (w :: x :: xs) = w ++ 46 :: [46].intercalate (x :: xs) := by simp [List.intercalate]
      rw [this, words_app w (h w (by simp)), ih (by simp) (fun y hy => h y (List.mem_cons_of_mem _ hy))]
theorem words_two (a b : List UInt8) : words (a ++ 46 :: b) = words a ++ words b := by
  have h1 : a ++ 46 :: b = [46].intercalate (words a ++ words b) := by
    have : ∀ xs ys : List (List UInt8), xs ≠ [] → ys ≠ [] → ([46] : List UInt8).intercalate (xs ++ ys) = [46].intercalate xs ++ 46 :: [46].intercalate ys := by
      intro xs
      induction xs with
      | nil => intro ys h; exact absurd rfl h
      | cons x xs ih =>
        intro ys _ hy
        cases xs with
        | nil =>
          cases ys with
          | nil => exact absurd rfl hy
          | cons y ys => simp [List.intercalate]
        | cons x2 xs =>
          have e : ∀ (u : List UInt8) (v : List (List UInt8)), v ≠ [] → ([46] : List UInt8).intercalate (u :: v) = u ++ 46 :: [46].intercalate v := by
            intro u v hv
            cases v with
            | nil => exact absurd rfl hv
            | cons v vs => simp [List.intercalate]
          rw [List.cons_append, e x _ (by simp), ih ys (by simp) hy, e x _ (by simp)]
          simp
    rw [this _ _ (words_ne a) (words_ne b), words_join, words_join]
  rw [h1, words_of _ (by simp [words_ne])]
  intro w hw
  rcases List.mem_append.1 hw with hw | hw
  · exact words_nd a w hw
  · exact words_nd b w hw
end Go.Proofs.YtednegmjjjdinaaDoor.M
