/- Texts of this claim's author, joined and pruned by a program of his (pack.py): M, M1. -/
import Derived.Lib.Split
import Derived.Lib.SlTrimSet
namespace Go.Proofs.YtednegmjjjdinaaGreatDoor.M
open Go
def words : List UInt8 → List (List UInt8)
  | [] => [[]]
  | c :: l => if c = 46 then [] :: words l else match words l with
    | [] => [[c]]
    | w :: ws => (c :: w) :: ws
theorem words_ne (l : List UInt8) : words l ≠ [] := by
  cases l with
  | nil => simp [words]
  | cons c l => unfold words; split
                · simp
                · split <;> simp
theorem words_dot (l : List UInt8) : words (46 :: l) = [] :: words l := by simp [words]
theorem words_cons (c : UInt8) (l : List UInt8) (h : c ≠ 46) : ∃ w ws, words l = w :: ws ∧ words (c :: l) = (c :: w) :: ws := by
  cases hw : words l with
  | nil => exact absurd hw (words_ne l)
  | cons w ws => exact ⟨w, ws, rfl, by simp [words, h, hw]⟩
theorem words_nodot (a : List UInt8) (h : ∀ x ∈ a, x ≠ 46) : words a = [a] := by
  induction a with
  | nil => rfl
  | cons c l ih =>
    obtain ⟨w, ws, h1, h2⟩ := words_cons c l (h c (by simp))
    rw [ih (fun x hx => h x (List.mem_cons_of_mem _ hx))] at h1
    injection h1 with h1 h3
    rw [h2, ← h1, ← h3]
theorem words_app (a : List UInt8) (h : ∀ x ∈ a, x ≠ 46) (b : List UInt8) : words (a ++ 46 :: b) = a :: words b := by
  induction a with
  | nil => exact words_dot b
  | cons c l ih =>
    obtain ⟨w, ws, h1, h2⟩ := words_cons c (l ++ 46 :: b) (h c (by simp))
    rw [ih (fun x hx => h x (List.mem_cons_of_mem _ hx))] at h1
    injection h1 with h1 h3
    rw [List.cons_append, h2, ← h1, ← h3]
theorem indexByte_none (l : List UInt8) (h : ∀ x ∈ l, x ≠ 46) : Lib.indexByte l 46 = -1 := by
  induction l with
  | nil => rfl
  | cons c l ih =>
    have := ih (fun x hx => h x (List.mem_cons_of_mem _ hx))
    have hc := h c (by simp)
    simp [Lib.indexByte, hc, this]
theorem indexByte_app (a b : List UInt8) (h : ∀ x ∈ a, x ≠ 46) : Lib.indexByte (a ++ 46 :: b) 46 = a.length := by
  induction a with
  | nil => simp [Lib.indexByte]
  | cons c l ih =>
    have := ih (fun x hx => h x (List.mem_cons_of_mem _ hx))
    have hc := h c (by simp)
    simp only [List.cons_append, Lib.indexByte, this, List.length_cons]
    have h1 : (c == 46) = false := by simpa using hc
    have h2 : ((l.length : Int) == -1) = false := by rw [beq_eq_false_iff_ne]; omega
    simp [h1, h2]
theorem dot_cases (l : List UInt8) : (∀ x ∈ l, x ≠ 46) ∨ ∃ a b, l = a ++ 46 :: b ∧ ∀ x ∈ a, x ≠ 46 := by
  induction l with
  | nil => exact .inl (by simp)
  | cons c l ih =>
    by_cases hc : c = 46
    · exact .inr ⟨[], l, by simp [hc], by simp⟩
    · rcases ih with h | ⟨a, b, rfl, h⟩
      · exact .inl (List.forall_mem_cons.2 ⟨hc, h⟩)
      · exact .inr ⟨c :: a, b, by simp, List.forall_mem_cons.2 ⟨hc, h⟩⟩
theorem split_words (n : Nat) : ∀ l : List UInt8, l.length ≤ n → Lib.splitK [46] 0 (Lib.count l [46]) l = words l ∧ Lib.count l [46] + 1 = (words l).length := by
  induction n with
  | zero =>
    intro l hl
    obtain rfl : l = [] := List.length_eq_zero_iff.1 (by omega)
    exact ⟨rfl, rfl⟩
  | succ n ih =>
    intro l hl
    rcases dot_cases l with h | ⟨a, b, rfl, h⟩
    · have hi : Lib.index l [46] = -1 := by rw [Lib.index_one]; exact indexByte_none l h
      rw [Lib.count_miss hi, words_nodot l h]
      exact ⟨rfl, rfl⟩
    · have hi : Lib.index (a ++ 46 :: b) [46] = (a.length : Nat) := by rw [Lib.index_one]; exact indexByte_app a b h
      have hd : (a ++ 46 :: b).drop (a.length + [(46 : UInt8)].length) = b := by simp [List.drop_append]
      have hc := Lib.count_hit (by simp) hi
      rw [hd] at hc
      obtain ⟨i1, i2⟩ := ih b (by simp at hl; omega)
      rw [hc, Nat.add_comm 1, words_app a h b]
      have hm : ((Lib.index (a ++ 46 :: b) [46]) == -1) = false := by rw [hi, beq_eq_false_iff_ne]; omega
      constructor
      · rw [Lib.splitK, hm, hi]
        simp only [Bool.false_eq_true, if_false, Nat.add_zero, Int.toNat_natCast]
        rw [hd, i1]
        simp
      · simp; omega
theorem words_le' (l : List UInt8) : (words l).length ≤ l.length + 1 := by
  induction l with
  | nil => simp [words]
  | cons c l ih =>
    by_cases h : c = 46
    · subst h; rw [words_dot]; simpa using ih
    · obtain ⟨w, ws, h1, h2⟩ := words_cons c l h
      rw [h2]; rw [h1] at ih; simp at ih ⊢; omega
theorem words_le (s : ByteArray) : (words s.data.toList).length ≤ s.size + 1 := words_le' s.data.toList
def bas (ls : List (List UInt8)) : List ByteArray := ls.map fun l => ⟨l.toArray⟩
theorem ba_of (s : ByteArray) : (⟨s.data.toList.toArray⟩ : ByteArray) = s := by cases s; simp
theorem bas_data (ls : List ByteArray) : bas (ls.map (·.data.toList)) = ls := by
  induction ls with
  | nil => rfl
  | cons s l ih => simp only [List.map_cons, bas] at ih ⊢; rw [ih, ba_of]
theorem bas_length (ls : List (List UInt8)) : (bas ls).length = ls.length := by simp [bas]
theorem splitB_words (s : ByteArray) : Lib.splitB ⟨#[46]⟩ 0 (Lib.countB s ⟨#[46]⟩) s = bas (words s.data.toList) := by
  rw [← bas_data (Lib.splitB _ _ _ _), Lib.splitB_data]
  exact congrArg bas (split_words _ _ (Nat.le_refl _)).1
theorem countB_words (s : ByteArray) : Lib.countB s ⟨#[46]⟩ + 1 = (words s.data.toList).length := (split_words _ _ (Nat.le_refl _)).2
theorem dropWhile_nil {α : Type} (p : α → Bool) (l : List α) : l.dropWhile p = [] ↔ ∀ x ∈ l, p x = true := by
  induction l with
  | nil => simp
  | cons a l ih =>
    by_cases h : p a = true
    · simp [h, ih]
    · simp [h]
theorem mem_of_dropWhile {α : Type} (p : α → Bool) (l : List α) (x : α) (h : x ∈ l) : x ∈ l.dropWhile p ∨ p x = true := by
  induction l with
  | nil => simp at h
  | cons a l ih =>
    by_cases hp : p a = true
    · rw [List.dropWhile_cons, if_pos hp]
      rcases List.mem_cons.1 h with rfl | h
      · exact .inr hp
      · exact ih h
    · rw [List.dropWhile_cons, if_neg hp]
      exact .inl h
theorem trimS_nil (l cs : List UInt8) : Lib.trimS l cs = [] ↔ ∀ x ∈ l, cs.contains x = true := by
  unfold Lib.trimS Lib.trimLeftS Lib.trimRightS
  rw [dropWhile_nil]
  constructor
  · intro h x hx
    rcases mem_of_dropWhile (cs.contains ·) l.reverse x (by simpa using hx) with h1 | h1
    · exact h x (by simpa using h1)
    · exact h1
  · intro h x hx
    exact h x (by
      have := List.mem_reverse.1 hx
      exact List.mem_reverse.1 ((List.dropWhile_sublist (cs.contains ·)).mem this))
end Go.Proofs.YtednegmjjjdinaaGreatDoor.M
namespace Go.Proofs.YtednegmjjjdinaaGreatDoor.M
open Go
def letters : List UInt8 := [97, 98, 99, 100, 101, 102, 103, 104, 105, 106, 107, 108, 109, 110, 111, 112, 113, 114, 115, 116, 117, 118, 119, 120, 121, 122, 48, 49, 50, 51, 52, 53, 54, 55, 56, 57, 45, 95]
def isLetter (c : UInt8) : Bool := decide (97 ≤ c.toNat ∧ c.toNat ≤ 122) || decide (48 ≤ c.toNat ∧ c.toNat ≤ 57) || c == 45 || c == 95
theorem letter_iff (c : UInt8) : letters.contains c = isLetter c := by
  have : ∀ x : Fin 256, letters.contains (UInt8.ofNat x.val) = isLetter (UInt8.ofNat x.val) := by decide +kernel
  have h := this ⟨c.toNat, c.toNat_lt⟩
  simpa using h
def isName (l : List UInt8) : Bool := !l.isEmpty && decide (l.length ≤ 16) && l.all isLetter
end Go.Proofs.YtednegmjjjdinaaGreatDoor.M
namespace Go.Proofs.YtednegmjjjdinaaGreatDoor.M
open Go
def goodB (l : List UInt8) : Bool := decide (l.length ≤ 64) && (decide ((words l).length ≤ 8) && (words l).all isName)
def patW : List (List UInt8) → Bool
 | [] => true
 | w :: ws => (isName w || (w == [42] || (w == [35] && ws.isEmpty))) && patW ws
def patB (l : List UInt8) : Bool := decide (l.length ≤ 64) && (decide ((words l).length ≤ 8) && patW (words l))
theorem words_snoc_dot (l : List UInt8) : words (l ++ [46]) = words l ++ [[]] := by
 induction l with
 | nil => rfl
 | cons c l ih =>
  by_cases h : c = 46
  ·
   subst h
   rw [List.cons_append, words_dot, words_dot, ih, List.cons_append]
  ·
   obtain ⟨w, ws, h1, h2⟩ := words_cons c l h
   obtain ⟨w', ws', h1', h2'⟩ := words_cons c (l ++ [46]) h
   rw [List.cons_append, h2', h2, List.cons_append]
   rw [ih, h1, List.cons_append] at h1'
   injection h1' with e1 e2
   rw [← e1, ← e2]
theorem words_snoc (l : List UInt8) (c : UInt8) (h : c ≠ 46) : words (l ++ [c]) = (words l).dropLast ++ [(words l).getLastD [] ++ [c]] := by
 induction l with
 | nil => simp [words, h]
 | cons b l ih =>
  have hne := words_ne l
  by_cases hb : b = 46
  ·
   subst hb
   rw [List.cons_append, words_dot, words_dot, ih]
   cases hw : words l with
   | nil => exact absurd hw hne
   | cons w ws => simp
  ·
   obtain ⟨w, ws, h1, h2⟩ := words_cons b l hb
   obtain ⟨w', ws', h1', h2'⟩ := words_cons b (l ++ [c]) hb
   rw [List.cons_append, h2', h2]
   rw [ih, h1] at h1'
   cases ws with
   | nil =>
    simp at h1'
    obtain ⟨rfl, rfl⟩ := h1'
    simp
   | cons x xs =>
    simp at h1'
    obtain ⟨rfl, rfl⟩ := h1'
    simp
theorem words_join (l : List UInt8) : [46].intercalate (words l) = l := by
 induction l with
 | nil => rfl
 | cons c l ih =>
  by_cases h : c = 46
  ·
   subst h
   rw [words_dot]
   cases hw : words l with
   | nil => exact absurd hw (words_ne l)
   | cons w ws => rw [hw] at ih; simp [List.intercalate] at ih ⊢; exact ih
  ·
   obtain ⟨w, ws, h1, h2⟩ := words_cons c l h
   rw [h2]
   rw [h1] at ih
   cases ws with
   | nil => simp [List.intercalate] at ih ⊢; exact ih
   | cons x xs => simp [List.intercalate] at ih ⊢; exact ih
theorem words_len (l : List UInt8) : ∀ w ∈ words l, w.length ≤ l.length := by
 induction l with
 | nil => intro w hw; simp [words] at hw; simp [hw]
 | cons c l ih =>
  by_cases h : c = 46
  ·
   subst h; rw [words_dot]
   intro w hw
   rcases List.mem_cons.1 hw with rfl | hw
   ·
    simp
   ·
    have := ih w hw; simp; omega
  ·
   obtain ⟨w0, ws, h1, h2⟩ := words_cons c l h
   rw [h2]; rw [h1] at ih
   intro w hw
   rcases List.mem_cons.1 hw with rfl | hw
   ·
    have := ih w0 (by simp); simp; omega
   ·
    have := ih w (List.mem_cons_of_mem _ hw); simp; omega
theorem set_last {α : Type} (l : List α) (h : l ≠ []) (x : α) : l.set (l.length - 1) x = l.dropLast ++ [x] := by
 induction l with
 | nil => exact absurd rfl h
 | cons a l ih =>
  cases l with
  | nil => simp
  | cons b l =>
   have := ih (by simp)
   simp at this ⊢
   exact this
theorem getLastD_at {α : Type} (l : List α) (_h : l ≠ []) (d : α) (hi : l.length - 1 < l.length) : l.getLastD d = l[l.length - 1] := by
 rw [List.getLastD_eq_getLast?, List.getLast?_eq_getElem?, List.getElem?_eq_getElem hi]
 rfl
end Go.Proofs.YtednegmjjjdinaaGreatDoor.M
