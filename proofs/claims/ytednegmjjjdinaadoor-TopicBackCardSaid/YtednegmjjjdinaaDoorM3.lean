/- Plain facts on how MQTT writes topics: marks are swapped byte by byte; a text with a byte beyond ASCII is no pattern, whatever strings.Map makes of it. No program in sight. -/
import Derived.Test.YtednegmjjjdinaaDoorM1
import Derived.Test.YtednegmjjjdinaaDoorXd
namespace Go.Proofs.YtednegmjjjdinaaDoor.M
open Go

def sub (a x b y c : UInt8) : UInt8 := if c = a then x else if c = b then y else c
def asc (l : List UInt8) : Prop := ∀ x ∈ l, x.toNat < 128

theorem letter_asc (c : UInt8) (h : isLetter c = true) : c.toNat < 128 ∧ c ≠ 47 ∧ c ≠ 43 ∧ c ≠ 46 ∧ c ≠ 42 := by
  have : ∀ x : Fin 256, isLetter (UInt8.ofNat x.val) = true → (UInt8.ofNat x.val).toNat < 128 ∧ UInt8.ofNat x.val ≠ 47 ∧ UInt8.ofNat x.val ≠ 43 ∧ UInt8.ofNat x.val ≠ 46 ∧ UInt8.ofNat x.val ≠ 42 := by decide +kernel
  have k := this ⟨c.toNat, c.toNat_lt⟩
  simp only [UInt8.ofNat_toNat] at k
  exact k h
theorem inter_mem (l : List (List UInt8)) (x : UInt8) (h : x ∈ [46].intercalate l) : x = 46 ∨ ∃ w ∈ l, x ∈ w := by
  induction l with
  | nil => simp [List.intercalate] at h
  | cons w l ih =>
    cases l with
    | nil => simp [List.intercalate] at h; exact .inr ⟨w, by simp, h⟩
    | cons y l =>
      have e : ([46] : List UInt8).intercalate (w :: y :: l) = w ++ 46 :: [46].intercalate (y :: l) := by simp [List.intercalate]
      rw [e] at h
      rcases List.mem_append.1 h with h | h
      · exact .inr ⟨w, by simp, h⟩
      · rcases List.mem_cons.1 h with h | h
        · exact .inl h
        · rcases ih h with h | ⟨u, hu, h⟩
          · exact .inl h
          · exact .inr ⟨u, List.mem_cons_of_mem _ hu, h⟩
theorem patW_mem (p : List (List UInt8)) (h : patW p = true) : ∀ w ∈ p, isName w = true ∨ w = [42] ∨ w = [35] := by
  induction p with
  | nil => intro w hw; simp at hw
  | cons u p ih =>
    rw [patW, Bool.and_eq_true] at h
    intro w hw
    rcases List.mem_cons.1 hw with rfl | hw
    · have := h.1
      simp at this
      rcases this with h | h | h
      · exact .inl h
      · exact .inr (.inl h)
      · exact .inr (.inr h.1)
    · exact ih h.2 w hw
/-- A pattern's bytes: ASCII, and none of MQTT's marks. -/
theorem pat_bytes (l : List UInt8) (h : patB l = true) : ∀ x ∈ l, x.toNat < 128 ∧ x ≠ 47 ∧ x ≠ 43 := by
  have hw : patW (words l) = true := by unfold patB at h; simp at h; exact h.2.2
  intro x hx
  rw [← words_join l] at hx
  rcases inter_mem _ _ hx with rfl | ⟨w, hw2, hx2⟩
  · decide
  · rcases patW_mem _ hw w hw2 with h | rfl | rfl
    · unfold isName at h
      simp only [Bool.and_eq_true, List.all_eq_true] at h
      have := letter_asc x (h.2 x hx2)
      exact ⟨this.1, this.2.1, this.2.2.1⟩
    · simp at hx2; subst hx2; decide
    · simp at hx2; subst hx2; decide
theorem turn_sub (p q p' q' c : UInt8) : Ext.turn p q p' q' (c.toNat : Int) = ((sub p p' q q' c).toNat : Int) := by
  unfold Ext.turn sub
  by_cases h1 : c = p
  · subst h1; simp
  · have : ¬ ((c.toNat : Int) = (p.toNat : Int)) := fun e => h1 (UInt8.toNat_inj.1 (by omega))
    rw [if_neg this, if_neg h1]
    by_cases h2 : c = q
    · subst h2; simp
    · have : ¬ ((c.toNat : Int) = (q.toNat : Int)) := fun e => h2 (UInt8.toNat_inj.1 (by omega))
      rw [if_neg this, if_neg h2]

theorem head_get (b : UInt8) (l : List UInt8) : (⟨(b :: l).toArray⟩ : ByteArray).get! 0 = b := by simp [ByteArray.get!]
theorem mapGo_asc (p q p' q' : UInt8) (hp' : p'.toNat < 128) (hq' : q'.toNat < 128) (n : Nat) : ∀ l : List UInt8, l.length ≤ n → asc l → Lib.mapGoD (Ext.turn p q p' q') n l = l.map (sub p p' q q') := by
  induction n with
  | zero => intro l hl _; obtain rfl : l = [] := List.length_eq_zero_iff.1 (by omega); rfl
  | succ n ih =>
    intro l hl ha
    cases l with
    | nil => rfl
    | cons b l =>
      have hb := ha b (by simp)
      have hd : Lib.decodeL (b :: l) = (b.toNat, 1) := by
        unfold Lib.decodeL
        rw [Ext.decode_lo _ _ (by rw [head_get]; exact hb), head_get]
      unfold Lib.mapGoD
      rw [if_neg (by simp), hd]
      simp only []
      rw [turn_sub, if_pos (by omega), List.drop_one, List.tail_cons, ih l (by simp at hl; omega) (fun x hx => ha x (List.mem_cons_of_mem _ hx)), List.map_cons]
      have hs : (sub p p' q q' b).toNat < 128 := by unfold sub; split; exact hp'; split; exact hq'; exact hb
      unfold Lib.encodeRune
      rw [Lib.encodeRuneZ_one (by omega) (by omega)]
      simp
theorem mapD_asc (p q p' q' : UInt8) (hp' : p'.toNat < 128) (hq' : q'.toNat < 128) (l : List UInt8) (ha : asc l) : Ext.turnedL p q p' q' l = l.map (sub p p' q q') :=
  mapGo_asc p q p' q' hp' hq' l.length l (Nat.le_refl _) ha

theorem byte_hi (z : Int) (h : 128 ≤ z) (h2 : z < 256) : 128 ≤ (z.toNat.toUInt8).toNat := by
  simp; omega
theorem encode_hi (r : Int) (h : 128 ≤ r) (h2 : r ≤ 1114111) : ∃ b ∈ Lib.encodeRune r, 128 ≤ b.toNat := by
  have key : ∀ z : Int, z ∈ Lib.encodeRuneZ r → 128 ≤ z → z < 256 → ∃ b ∈ Lib.encodeRune r, 128 ≤ b.toNat := fun z hz h1 h2 =>
    ⟨z.toNat.toUInt8, List.mem_map.2 ⟨z, hz, rfl⟩, byte_hi z h1 h2⟩
  unfold Lib.encodeRuneZ at key
  split at key
  · omega
  · split at key
    · exact key _ (List.mem_cons_self) (by omega) (by omega)
    · split at key
      · exact key _ (List.mem_cons_self) (by omega) (by omega)
      · split at key
        · exact key _ (List.mem_cons_self) (by omega) (by omega)
        · exact key 239 (List.mem_cons_self) (by omega) (by omega)
theorem mapGo_hi (p q p' q' : UInt8) (hp : p.toNat < 128) (hq : q.toNat < 128) (n : Nat) : ∀ l : List UInt8, l.length ≤ n → ¬ asc l → ∃ b ∈ Lib.mapGoD (Ext.turn p q p' q') n l, 128 ≤ b.toNat := by
  induction n with
  | zero => intro l hl ha; obtain rfl : l = [] := List.length_eq_zero_iff.1 (by omega); exact absurd (fun x hx => by simp at hx) ha
  | succ n ih =>
    intro l hl ha
    cases l with
    | nil => exact absurd (fun x hx => by simp at hx) ha
    | cons b l =>
      unfold Lib.mapGoD
      rw [if_neg (by simp)]
      by_cases hb : b.toNat < 128
      · have hd : Lib.decodeL (b :: l) = (b.toNat, 1) := by
          unfold Lib.decodeL
          rw [Ext.decode_lo _ _ (by rw [head_get]; exact hb), head_get]
        rw [hd]
        simp only []
        have hl2 : ¬ asc l := fun h => ha (by
          intro x hx
          rcases List.mem_cons.1 hx with rfl | hx
          · exact hb
          · exact h x hx)
        obtain ⟨x, hx, h2⟩ := ih l (by simp at hl; omega) hl2
        exact ⟨x, List.mem_append_right _ (by rw [List.drop_one, List.tail_cons]; exact hx), h2⟩
      · have hd := Ext.decode_hi ⟨(b :: l).toArray⟩ 0 (by rw [head_get]; omega)
        change 128 ≤ (Lib.decodeL (b :: l)).1 ∧ (Lib.decodeL (b :: l)).1 ≤ 1114111 ∧ _ at hd
        obtain ⟨d1, d2, _⟩ := hd
        have ht : Ext.turn p q p' q' ((Lib.decodeL (b :: l)).1 : Int) = ((Lib.decodeL (b :: l)).1 : Int) := by
          unfold Ext.turn; rw [if_neg (by omega), if_neg (by omega)]
        rw [ht, if_pos (by omega)]
        obtain ⟨x, hx, h2⟩ := encode_hi ((Lib.decodeL (b :: l)).1 : Int) (by omega) (by omega)
        exact ⟨x, List.mem_append_left _ hx, h2⟩
theorem mapD_hi (p q p' q' : UInt8) (hp : p.toNat < 128) (hq : q.toNat < 128) (l : List UInt8) (ha : ¬ asc l) : patB (Ext.turnedL p q p' q' l) = false := by
  obtain ⟨b, hb, h2⟩ := mapGo_hi p q p' q' hp hq l.length l (Nat.le_refl _) ha
  cases h : patB (Ext.turnedL p q p' q' l) with
  | false => rfl
  | true => exact absurd (pat_bytes _ h b hb).1 (by omega)
theorem sub_hi (a x b y : UInt8) (ha : a.toNat < 128) (hb : b.toNat < 128) (l : List UInt8) (h : ¬ asc l) : patB (l.map (sub a x b y)) = false := by
  cases hp : patB (l.map (sub a x b y)) with
  | false => rfl
  | true =>
    exfalso
    apply h
    intro c hc
    have := (pat_bytes _ hp (sub a x b y c) (List.mem_map.2 ⟨c, hc, rfl⟩)).1
    unfold sub at this
    by_cases h1 : c = a
    · rw [h1]; exact ha
    · rw [if_neg h1] at this
      by_cases h2 : c = b
      · rw [h2]; exact hb
      · rw [if_neg h2] at this; exact this
theorem sub_id (a x b y c : UInt8) (h1 : c ≠ a) (h2 : c ≠ b) : sub a x b y c = c := by
  unfold sub; rw [if_neg h1, if_neg h2]
theorem sub_back (x : UInt8) (h1 : x ≠ 47) (h2 : x ≠ 43) : sub 47 46 43 42 (sub 46 47 42 43 x) = x := by
  by_cases e1 : x = 46
  · subst e1; decide
  · by_cases e2 : x = 42
    · subst e2; decide
    · rw [sub_id 46 47 42 43 x e1 e2, sub_id 47 46 43 42 x h1 h2]
theorem sub_forth (x : UInt8) (h1 : x ≠ 46) (h2 : x ≠ 42) : sub 46 47 42 43 (sub 47 46 43 42 x) = x := by
  by_cases e1 : x = 47
  · subst e1; decide
  · by_cases e2 : x = 43
    · subst e2; decide
    · rw [sub_id 47 46 43 42 x e1 e2, sub_id 46 47 42 43 x h1 h2]
/-- There and back. -/
theorem back_pat (l : List UInt8) (h : patB l = true) : (l.map (sub 46 47 42 43)).map (sub 47 46 43 42) = l ∧ Ext.hasDot (l.map (sub 46 47 42 43)) = false := by
  have hb := pat_bytes l h
  constructor
  · rw [List.map_map]
    conv => rhs; rw [← List.map_id l]
    refine List.map_congr_left fun x hx => ?_
    obtain ⟨_, h1, h2⟩ := hb x hx
    exact sub_back x h1 h2
  · unfold Ext.hasDot
    rw [List.any_eq_false]
    intro y hy
    obtain ⟨x, hx, rfl⟩ := List.mem_map.1 hy
    obtain ⟨_, h1, h2⟩ := hb x hx
    unfold sub
    by_cases e1 : x = 46
    · subst e1; decide
    · rw [if_neg e1]
      by_cases e2 : x = 42
      · subst e2; decide
      · rw [if_neg e2]; simp [e1, e2]
theorem back_dots (l : List UInt8) (h : Ext.hasDot l = false) : (l.map (sub 47 46 43 42)).map (sub 46 47 42 43) = l := by
  rw [List.map_map]
  conv => rhs; rw [← List.map_id l]
  refine List.map_congr_left fun x hx => ?_
  have := List.any_eq_false.1 h x hx
  simp at this
  exact sub_forth x this.1 this.2
/-- What Dots answers: of any text. -/
def dotsB (l : List UInt8) : Option (List UInt8) := if Ext.hasDot l = true then none else if patB (l.map (sub 47 46 43 42)) = true then some (l.map (sub 47 46 43 42)) else none
def slashB (l : List UInt8) : Option (List UInt8) := if patB l = true then some (l.map (sub 46 47 42 43)) else none
def findB (l : List UInt8) : Option (Bool × List UInt8) :=
  if l.take 7 = [47, 113, 117, 101, 117, 101, 47] ∧ isName (l.drop 7) = true then some (true, l.drop 7)
  else if l.take 7 = [47, 116, 111, 112, 105, 99, 47] ∧ patB (l.drop 7) = true then some (false, l.drop 7) else none
end Go.Proofs.YtednegmjjjdinaaDoor.M
