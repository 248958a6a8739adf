/- What the printed functions on topics come to, said of lists of bytes. -/
import Derived.Test.YtednegmjjjdinaaDoorQ8
import Derived.Test.YtednegmjjjdinaaDoorM1
namespace Go.Proofs.YtednegmjjjdinaaDoor.U
open Go.RowKit Go.Proofs.YtednegmjjjdinaaDoorW.PrintWords Go.Proofs.YtednegmjjjdinaaDoorW.PrintLast Go.Proofs.YtednegmjjjdinaaDoor.Q Go.Proofs.YtednegmjjjdinaaDoor.QW Go.Proofs.YtednegmjjjdinaaDoor.Ext Go.Proofs.YtednegmjjjdinaaDoor.M

theorem wsucc (j : Nat) (h : j ≤ 4611686018427387904) : wrap64 ((j : Int) + 1) = ((j + 1 : Nat) : Int) := by
  unfold wrap64; omega
theorem bt_list (s : ByteArray) (i : Nat) (h : i < s.data.toList.length) : bt s (i : Int) = (s.data.toList[i].toNat : Int) := by
  have h2 : i < s.size := by rw [Lib.size_eq]; exact h
  have := bt_at s (i : Int) (by simpa using h2)
  rw [← this]
  obtain ⟨⟨l⟩⟩ := s
  simp
  rfl
theorem rd_bas (p : List (List UInt8)) (j : Nat) (h : j < p.length) : rdOf ByteArray.empty (bas p) (j : Int) = ⟨p[j].toArray⟩ := by
  simp [rdOf, bas, h]
theorem rd_list (p : List (List UInt8)) (j : Nat) (h : j < p.length) : (rdOf ByteArray.empty (bas p) (j : Int)).toList = p[j] := by
  rw [rd_bas p j h, Lib.toList_data]
theorem ba_list (l : List UInt8) : (⟨l.toArray⟩ : ByteArray).data.toList = l := rfl
theorem ext_one (s : ByteArray) (i : Nat) (h : i < s.data.toList.length) : s.extract i (i + 1) = ⟨[s.data.toList[i]].toArray⟩ := by
  have e : (s.extract i (i + 1)).data.toList = [s.data.toList[i]] := by
    rw [Lib.extract_data, Nat.add_sub_cancel_left, List.take_one, List.head?_drop, List.getElem?_eq_getElem h]
    rfl
  rw [← ba_of (s.extract i (i + 1)), e]
theorem ba_app (a b : List UInt8) : (⟨a.toArray⟩ : ByteArray) ++ ⟨b.toArray⟩ = ⟨(a ++ b).toArray⟩ := by
  rw [← ba_of (_ ++ _)]
  simp
theorem take_snoc (l : List UInt8) (i : Nat) (h : i < l.length) : l.take (i + 1) = l.take i ++ [l[i]] := List.take_succ_eq_append_getElem h

/-! ### trivetref08.Words -/
theorem words_loop (s : ByteArray) (hs : s.size ≤ 1048576) (d : Nat) : ∀ (k i : Nat), i + d = s.data.toList.length → d < k →
    trivetref08_Words.l0 k s 46 (bas (words (s.data.toList.take i))) (i : Int) = some (bas (words s.data.toList)) := by
  have hl : s.data.toList.length = s.size := (Lib.size_eq s).symm
  induction d with
  | zero =>
    intro k i hi hk
    obtain ⟨k, rfl⟩ : ∃ m, k = m + 1 := ⟨k - 1, by omega⟩
    simp only [trivetref08_Words.l0]
    rw [if_neg (by omega), List.take_of_length_le (by omega)]
  | succ d ih =>
    intro k i hi hk
    obtain ⟨k, rfl⟩ : ∃ m, k = m + 1 := ⟨k - 1, by omega⟩
    have hlt : i < s.data.toList.length := by omega
    have hle := words_le' (s.data.toList.take i)
    have hle2 : (s.data.toList.take i).length ≤ s.size := by rw [List.length_take]; omega
    have hne : 1 ≤ (words (s.data.toList.take i)).length := by
      have := words_ne (s.data.toList.take i)
      cases h : words (s.data.toList.take i) with
      | nil => exact absurd h this
      | cons _ _ => simp
    have IH := ih k (i + 1) (by omega) (by omega)
    rw [take_snoc _ i hlt] at IH
    simp only [trivetref08_Words.l0]
    rw [if_pos (by omega), if_pos (by omega), bt_list s i hlt, wsucc i (by omega), bas_length]
    by_cases hc : s.data.toList[i] = 46
    · rw [if_pos (by rw [hc]; rfl), if_pos (by omega)]
      rw [hc, words_snoc_dot] at IH
      have : bas (words (s.data.toList.take i) ++ [[]]) = bas (words (s.data.toList.take i)) ++ [⟨#[]⟩] := by simp [bas]
      rw [this] at IH
      exact IH
    · have hc2 : ¬ ((s.data.toList[i].toNat : Int) = 46) := fun h => hc (UInt8.toNat_inj.1 (by show _ = 46; omega))
      have hw1 : wrap64 (((words (s.data.toList.take i)).length : Int) - 1) = (((words (s.data.toList.take i)).length - 1 : Nat) : Int) := by unfold wrap64; omega
      rw [if_neg hc2, hw1, if_pos (by omega), if_pos (by omega), if_pos (by omega), if_pos (by omega)]
      simp only [Int.toNat_natCast]
      rw [words_snoc _ _ hc] at IH
      have hW := words_ne (s.data.toList.take i)
      have hwl := words_len (s.data.toList.take i)
      generalize words (s.data.toList.take i) = W at *
      have hn : W.length - 1 < W.length := by omega
      have hlast := hwl W[W.length - 1] (List.getElem_mem hn)
      have hsz : (⟨W[W.length - 1].toArray⟩ : ByteArray).size = W[W.length - 1].length := Lib.size_eq _
      have hsz1 : (⟨[s.data.toList[i]].toArray⟩ : ByteArray).size = 1 := rfl
      rw [rd_bas W _ hn, ext_one s i hlt, if_pos (by omega), ba_app]
      rw [getLastD_at W hW [] hn] at IH
      have : (bas W).set (W.length - 1) ⟨(W[W.length - 1] ++ [s.data.toList[i]]).toArray⟩ = bas (W.dropLast ++ [W[W.length - 1] ++ [s.data.toList[i]]]) := by
        have h2 := set_last (bas W) (by simpa [bas] using hW) ⟨(W[W.length - 1] ++ [s.data.toList[i]]).toArray⟩
        rw [bas_length] at h2
        rw [h2]
        simp [bas, List.map_dropLast]
      rw [this]
      exact IH
theorem words_ev (s : ByteArray) (hs : s.size ≤ 1048576) : Ev (fun k => trivetref08_Words.f k s 46) (bas (words s.data.toList)) :=
  Ev.of (trivetref08_Words.mono _ _) (k := s.data.toList.length + 1) (words_loop s hs s.data.toList.length (s.data.toList.length + 1) 0 (by omega) (by omega))

/-! ### trivetref07.Name -/
theorem letter_if {α : Type} (c : UInt8) (a b : α) : (if (c.toNat : Int) ≥ 97 then (if (c.toNat : Int) ≤ 122 then a else (if (c.toNat : Int) ≥ 48 then (if (c.toNat : Int) ≤ 57 then a else (if (c.toNat : Int) = 45 then a else (if ((c.toNat : Int) = 95) then a else b))) else (if (c.toNat : Int) = 45 then a else (if ((c.toNat : Int) = 95) then a else b)))) else (if (c.toNat : Int) ≥ 48 then (if (c.toNat : Int) ≤ 57 then a else (if (c.toNat : Int) = 45 then a else (if ((c.toNat : Int) = 95) then a else b))) else (if (c.toNat : Int) = 45 then a else (if ((c.toNat : Int) = 95) then a else b)))) = if isLetter c = true then a else b := by
  have h1 : (c == 45) = decide ((c.toNat : Int) = 45) := by
    rw [Bool.eq_iff_iff, beq_iff_eq, decide_eq_true_iff, ← UInt8.toNat_inj]
    show c.toNat = 45 ↔ _
    omega
  have h2 : (c == 95) = decide ((c.toNat : Int) = 95) := by
    rw [Bool.eq_iff_iff, beq_iff_eq, decide_eq_true_iff, ← UInt8.toNat_inj]
    show c.toNat = 95 ↔ _
    omega
  unfold isLetter
  rw [h1, h2]
  simp only [Bool.or_eq_true, decide_eq_true_iff]
  repeat' split
  all_goals first | rfl | (exfalso; omega)
theorem name_loop (s : ByteArray) (hs : s.size ≤ 1048576) (d : Nat) : ∀ (k i : Nat), i + d = s.data.toList.length → d < k →
    trivetref07_Name.l0 k s (i : Int) = some ((s.data.toList.drop i).all isLetter && (decide (1 ≤ s.data.toList.length) && decide (s.data.toList.length ≤ 16))) := by
  have hl : s.data.toList.length = s.size := (Lib.size_eq s).symm
  induction d with
  | zero =>
    intro k i hi hk
    obtain ⟨k, rfl⟩ : ∃ m, k = m + 1 := ⟨k - 1, by omega⟩
    simp only [trivetref07_Name.l0]
    rw [if_neg (by omega), List.drop_of_length_le (by omega), hl]
    by_cases h : 1 ≤ s.size
    · rw [if_pos (by omega), decide_eq_true h]
      congr 1
      simp only [List.all_nil, Bool.true_and]
      rw [Bool.eq_iff_iff, decide_eq_true_iff, decide_eq_true_iff]; omega
    · rw [if_neg (by omega), decide_eq_false h]; rfl
  | succ d ih =>
    intro k i hi hk
    obtain ⟨k, rfl⟩ : ∃ m, k = m + 1 := ⟨k - 1, by omega⟩
    have hlt : i < s.data.toList.length := by omega
    have IH := ih k (i + 1) (by omega) (by omega)
    simp only [trivetref07_Name.l0]
    rw [if_pos (by omega), if_pos (by omega), bt_list s i hlt, wsucc i (by omega), letter_if]
    rw [List.drop_eq_getElem_cons hlt, List.all_cons]
    by_cases hc : isLetter s.data.toList[i] = true
    · rw [if_pos hc, IH, hc, Bool.true_and]
    · rw [if_neg hc, Bool.eq_false_iff.2 hc]; rfl
theorem name_ev (s : ByteArray) (hs : s.size ≤ 1048576) : Ev (fun k => trivetref07_Name.f k s) (isName s.data.toList) := by
  have h := Ev.of (trivetref07_Name.mono s) (k := s.data.toList.length + 1) (name_loop s hs s.data.toList.length (s.data.toList.length + 1) 0 (by omega) (by omega))
  rw [List.drop_zero] at h
  have e : (s.data.toList.all isLetter && (decide (1 ≤ s.data.toList.length) && decide (s.data.toList.length ≤ 16))) = isName s.data.toList := by
    unfold isName
    cases hl : s.data.toList with
    | nil => rfl
    | cons c l => simp [Bool.and_comm]
  rw [e] at h
  exact h
end Go.Proofs.YtednegmjjjdinaaDoor.U
