/- The laws TopicWrites and TopicBack, as statements on the printed functions. -/
import Derived.Test.YtednegmjjjdinaaDoorQ11
import Derived.Test.YtednegmjjjdinaaDoorU2
import Derived.Test.YtednegmjjjdinaaDoorM3
namespace Go.Proofs.YtednegmjjjdinaaDoor.U
open Go.RowKit Go.Proofs.YtednegmjjjdinaaDoorW.PrintWords Go.Proofs.YtednegmjjjdinaaDoorW.PrintLast Go.Proofs.YtednegmjjjdinaaDoor.Q Go.Proofs.YtednegmjjjdinaaDoor.QW Go.Proofs.YtednegmjjjdinaaDoor.Ext Go.Proofs.YtednegmjjjdinaaDoor.M

/-- What Slashes and Dots give back. -/
def out : Option (List UInt8) → ByteArray × Int
  | some l => (⟨l.toArray⟩, 0)
  | none => (⟨#[]⟩, 30)
def outF : Option (Bool × List UInt8) → Bool × ByteArray × Int
  | some (q, l) => (q, ⟨l.toArray⟩, 0)
  | none => (false, ⟨#[]⟩, 30)

theorem pat_asc (l : List UInt8) (h : patB l = true) : asc l := fun x hx => (pat_bytes l h x hx).1

theorem slashes_ev (s : ByteArray) (hs : s.size ≤ 1048576) : Ev (fun k => topic_Slashes.f k s) (out (slashB s.data.toList)) := by
  refine Ev.congr (fun k => by unfold topic_Slashes.f; rfl) (Ev.bind (pat_ev s hs) ?_)
  unfold slashB
  by_cases h : patB s.data.toList = true
  · have e : topic_turned.f s ⟨#[46, 42]⟩ ⟨#[47, 43]⟩ = some ⟨(s.data.toList.map (sub 46 47 42 43)).toArray⟩ := by
      unfold topic_turned.f
      rw [if_pos (by omega), if_pos ⟨rfl, rfl⟩, mapD_asc 46 42 47 43 (by decide) (by decide) _ (pat_asc _ h)]
    simp only [h, if_true, e, Option.bind_some]
    exact Ev.now _
  · simp only [h, Bool.false_eq_true, if_false]
    exact Ev.now _

theorem swapped_loop (s : ByteArray) (hs : s.size ≤ 1048576) (a x b y : UInt8) (d : Nat) : ∀ (k i : Nat) (acc : List Int), i + d = s.data.toList.length → d < k → acc.length ≤ i →
    trivetref08_swapped.l0 k s (a.toNat : Int) (x.toNat : Int) (b.toNat : Int) (y.toNat : Int) acc (i : Int) = some (strOfNums (acc ++ ((s.data.toList.drop i).map (sub a x b y)).map fun c => (c.toNat : Int))) := by
  have hl : s.data.toList.length = s.size := (Lib.size_eq s).symm
  induction d with
  | zero =>
    intro k i acc hi hk ha
    obtain ⟨k, rfl⟩ : ∃ m, k = m + 1 := ⟨k - 1, by omega⟩
    simp only [trivetref08_swapped.l0]
    rw [if_neg (by omega), List.drop_of_length_le (by omega)]
    simp
  | succ d ih =>
    intro k i acc hi hk ha
    obtain ⟨k, rfl⟩ : ∃ m, k = m + 1 := ⟨k - 1, by omega⟩
    have hlt : i < s.data.toList.length := by omega
    have IH := fun z : UInt8 => ih k (i + 1) (acc ++ [(z.toNat : Int)]) (by omega) (by omega) (by simp; omega)
    simp only [trivetref08_swapped.l0]
    have hlen : acc.length < 140737488355328 := by omega
    rw [if_pos (by omega), if_pos (by omega), bt_list s i hlt, wsucc i (by omega)]
    simp only [hlen, if_true, IH]
    rw [List.drop_eq_getElem_cons hlt]
    clear IH
    simp only [List.map_cons, List.append_assoc, List.singleton_append]
    generalize s.data.toList[i] = c
    unfold sub
    by_cases h1 : c = a
    · subst h1; simp
    · rw [if_neg (fun e => h1 (UInt8.toNat_inj.1 (by omega))), if_neg h1]
      by_cases h2 : c = b
      · subst h2; simp
      · rw [if_neg (fun e => h2 (UInt8.toNat_inj.1 (by omega))), if_neg h2]
theorem nums_back (l : List UInt8) : strOfNums (l.map fun c => (c.toNat : Int)) = ⟨l.toArray⟩ := by
  unfold strOfNums
  rw [List.map_map]
  congr 2
  conv => rhs; rw [← List.map_id l]
  exact List.map_congr_left fun x _ => by simp
theorem swapped_ev (s : ByteArray) (hs : s.size ≤ 1048576) (a x b y : UInt8) : Ev (fun k => trivetref08_swapped.f k s (a.toNat : Int) (x.toNat : Int) (b.toNat : Int) (y.toNat : Int)) ⟨(s.data.toList.map (sub a x b y)).toArray⟩ := by
  refine Ev.of (trivetref08_swapped.mono _ _ _ _ _) (k := s.data.toList.length + 1) ?_
  have h := swapped_loop s hs a x b y s.data.toList.length (s.data.toList.length + 1) 0 [] (by omega) (by omega) (by simp)
  rw [List.drop_zero, List.nil_append, nums_back] at h
  exact h
theorem refslashes_ev (s : ByteArray) (hs : s.size ≤ 1048576) : Ev (fun k => trivetref08_Slashes.f k s) (out (slashB s.data.toList)) := by
  refine Ev.congr (fun k => by unfold trivetref08_Slashes.f; rfl) (Ev.bind (refpat_ev s hs) ?_)
  unfold slashB
  by_cases h : patB s.data.toList = true
  · simp only [h, if_true]
    exact Ev.bind (swapped_ev s hs 46 47 42 43) (Ev.now _)
  · simp only [h, Bool.false_eq_true, if_false]
    exact Ev.now _

theorem pat_size (l : List UInt8) (h : patB l = true) : l.length ≤ 64 := by unfold patB at h; simp at h; exact h.1
theorem pat_ev_any (l : List UInt8) (hl : l.length ≤ 1048576) : Ev (fun k => topic_Pattern.f k ⟨l.toArray⟩) (patB l) := pat_ev ⟨l.toArray⟩ (by rw [Lib.size_eq]; exact hl)

theorem mapGo_len (f : Int → Int) (n : Nat) : ∀ l : List UInt8, (Lib.mapGoD f n l).length ≤ 4 * n := by
  induction n with
  | zero => intro l; simp [Lib.mapGoD]
  | succ n ih =>
    intro l
    unfold Lib.mapGoD
    split
    · simp
    · rw [List.length_append]
      have := ih (l.drop (Lib.decodeL l).2)
      have h4 : ∀ r : Int, (Lib.encodeRune r).length ≤ 4 := by
        intro r
        unfold Lib.encodeRune Lib.encodeRuneZ
        split <;> (try split) <;> (try split) <;> (try split) <;> simp
      split
      · have := h4 (f (Lib.decodeL l).1); omega
      · simp; omega

theorem dots_ev (s : ByteArray) (hs : s.size ≤ 4096) : Ev (fun k => topic_Dots.f k s) (out (dotsB s.data.toList)) := by
  have hl : s.data.toList.length = s.size := (Lib.size_eq s).symm
  have e : topic_turned.f s ⟨#[47, 43]⟩ ⟨#[46, 42]⟩ = some ⟨(turnedL 47 43 46 42 s.data.toList).toArray⟩ := by
    unfold topic_turned.f
    rw [if_pos (by omega), if_neg (by decide), if_pos ⟨rfl, rfl⟩]
  have e2 : strings_ContainsAny.f s ⟨#[46, 42]⟩ = some (hasDot s.data.toList) := by
    unfold strings_ContainsAny.f
    rw [if_pos ⟨rfl, by omega⟩]
  have hlen : (turnedL 47 43 46 42 s.data.toList).length ≤ 1048576 := by
    have := mapGo_len (Ext.turn 47 43 46 42) s.data.toList.length s.data.toList
    unfold turnedL Lib.mapD
    omega
  refine Ev.congr (f := fun k => if hasDot s.data.toList = true then some ((⟨#[]⟩ : ByteArray), (30 : Int)) else (topic_Pattern.f k ⟨(turnedL 47 43 46 42 s.data.toList).toArray⟩).bind fun t => if t = true then some (⟨(turnedL 47 43 46 42 s.data.toList).toArray⟩, 0) else some (⟨#[]⟩, 30)) (fun k => by unfold topic_Dots.f; rw [e, Option.bind_some, e2, Option.bind_some]) ?_
  unfold dotsB
  by_cases h1 : hasDot s.data.toList = true
  · simp only [h1, if_true]; exact Ev.now _
  simp only [h1, Bool.false_eq_true, if_false]
  refine Ev.bind (pat_ev_any _ hlen) ?_
  by_cases ha : asc s.data.toList
  · rw [mapD_asc 47 43 46 42 (by decide) (by decide) _ ha]
    by_cases h2 : patB (s.data.toList.map (sub 47 46 43 42)) = true
    · simp only [h2, if_true]; exact Ev.now _
    · simp only [h2, Bool.false_eq_true, if_false]; exact Ev.now _
  · rw [mapD_hi 47 43 46 42 (by decide) (by decide) _ ha, sub_hi 47 46 43 42 (by decide) (by decide) _ ha]
    simp only [Bool.false_eq_true, if_false]; exact Ev.now _

theorem refdots_loop (s : ByteArray) (hs : s.size ≤ 1048576) (d : Nat) : ∀ i : Nat, i + d = s.data.toList.length →
    Ev (fun k => trivetref08_Dots.l0 k s (i : Int)) (out (if hasDot (s.data.toList.drop i) = true then none else if patB (s.data.toList.map (sub 47 46 43 42)) = true then some (s.data.toList.map (sub 47 46 43 42)) else none)) := by
  have hl : s.data.toList.length = s.size := (Lib.size_eq s).symm
  induction d with
  | zero =>
    intro i hi
    refine Ev.step (f := fun k => (trivetref08_swapped.f k s 47 46 43 42).bind fun t => (trivetref08_Pattern.f k t).bind fun b => if b = true then some (t, 0) else some (⟨#[]⟩, 30)) (fun k => by simp only [trivetref08_Dots.l0]; rw [if_neg (by omega)]) ?_
    refine Ev.bind (swapped_ev s hs 47 46 43 42) (Ev.bind (refpat_ev ⟨(s.data.toList.map (sub 47 46 43 42)).toArray⟩ (by rw [Lib.size_eq]; simp; omega)) ?_)
    rw [List.drop_of_length_le (by omega)]
    simp only [hasDot, List.any_nil, Bool.false_eq_true, if_false]
    by_cases h2 : patB (s.data.toList.map (sub 47 46 43 42)) = true
    · simp only [h2, if_true]; exact Ev.now _
    · simp only [h2, Bool.false_eq_true, if_false]; exact Ev.now _
  | succ d ih =>
    intro i hi
    have hlt : i < s.data.toList.length := by omega
    have IH := ih (i + 1) (by omega)
    refine Ev.step (f := fun k => if s.data.toList[i] = 46 then some (⟨#[]⟩, 30) else if s.data.toList[i] = 42 then some (⟨#[]⟩, 30) else trivetref08_Dots.l0 k s ((i + 1 : Nat) : Int)) (fun k => ?_) ?_
    · simp only [trivetref08_Dots.l0]
      rw [if_pos (by omega), if_pos (by omega), bt_list s i hlt, wsucc i (by omega)]
      have h1 : ((s.data.toList[i].toNat : Int) = 46) = (s.data.toList[i] = 46) := by
        rw [← UInt8.toNat_inj]; exact propext ⟨fun h => by show _ = 46; omega, fun h => by have : s.data.toList[i].toNat = 46 := h; omega⟩
      have h2 : ((s.data.toList[i].toNat : Int) = 42) = (s.data.toList[i] = 42) := by
        rw [← UInt8.toNat_inj]; exact propext ⟨fun h => by show _ = 42; omega, fun h => by have : s.data.toList[i].toNat = 42 := h; omega⟩
      simp only [h1, h2]
    · rw [List.drop_eq_getElem_cons hlt]
      generalize s.data.toList[i] = c
      unfold hasDot at IH ⊢
      rw [List.any_cons]
      by_cases h1 : c = 46
      · subst h1; simp only [if_true, beq_self_eq_true, Bool.true_or]; exact Ev.now _
      · by_cases h2 : c = 42
        · subst h2; simp only [if_true, beq_self_eq_true, Bool.true_or, Bool.or_true, ite_self]; exact Ev.now _
        · have e : (c == 46 || c == 42) = false := by simp [h1, h2]
          simp only [h1, h2, if_false, e, Bool.false_or]
          exact IH
theorem refdots_ev (s : ByteArray) (hs : s.size ≤ 1048576) : Ev (fun k => trivetref08_Dots.f k s) (out (dotsB s.data.toList)) := by
  have := refdots_loop s hs s.data.toList.length 0 (by omega)
  rw [List.drop_zero] at this
  exact this

theorem queue_is (s : ByteArray) : topic_queue.f s = some (isName s.data.toList) := word_is s
theorem ext_take (s : ByteArray) (n : Nat) : (s.extract 0 n).toList = s.data.toList.take n := by
  rw [Lib.toList_data]; simp
theorem ext_drop (s : ByteArray) (n : Nat) : s.extract n s.size = ⟨(s.data.toList.drop n).toArray⟩ := by
  apply ByteArray.ext
  apply Array.ext'
  rw [ByteArray.data_extract, Array.toList_extract, List.extract_eq_take_drop, Lib.size_eq, List.take_of_length_le (by simp)]
theorem cut_now (s p : ByteArray) (hp : p.size = 7) : strings_CutPrefix.f s p = some (if s.data.toList.take 7 = p.data.toList then (⟨(s.data.toList.drop 7).toArray⟩, true) else (s, false)) := by
  have hl : s.data.toList.length = s.size := (Lib.size_eq s).symm
  have hpl : p.data.toList.length = p.size := (Lib.size_eq p).symm
  unfold strings_CutPrefix.f stringslite_CutPrefix.f stringslite_HasPrefix.f
  rw [hp]
  by_cases h : 7 ≤ s.size
  · have e : (s.extract 0 ((7 : Nat) : Int).toNat).toList = s.data.toList.take 7 := ext_take s 7
    have e2 : s.extract ((7 : Nat) : Int).toNat s.size = ⟨(s.data.toList.drop 7).toArray⟩ := ext_drop s 7
    rw [if_pos (by omega), if_pos (by omega), if_pos (by omega), Option.bind_some, e, e2, Lib.toList_data]
    by_cases h2 : s.data.toList.take 7 = p.data.toList
    · rw [if_pos (by rw [h2]; simp), if_pos (by omega), if_pos (by omega), if_pos h2, Option.bind_some]
    · rw [if_neg (by simpa using h2), if_neg h2, Option.bind_some]
  · have h2 : ¬ s.data.toList.take 7 = p.data.toList := fun e => by
      have := congrArg List.length e
      rw [List.length_take, hpl, hp] at this; omega
    rw [if_neg (by omega), if_neg h2, Option.bind_some, if_neg (by simp), Option.bind_some]

theorem find_ev (s : ByteArray) (hs : s.size ≤ 1048576) : Ev (fun k => topic_Find.f k s) (outF (findB s.data.toList)) := by
  have hl : s.data.toList.length = s.size := (Lib.size_eq s).symm
  have hd : (⟨(s.data.toList.drop 7).toArray⟩ : ByteArray).size ≤ 1048576 := by rw [Lib.size_eq]; simp; omega
  have e1 := cut_now s ⟨#[47, 113, 117, 101, 117, 101, 47]⟩ rfl
  have e2 := cut_now s ⟨#[47, 116, 111, 112, 105, 99, 47]⟩ rfl
  have hj (y : ByteArray) (b : Bool) (r) (hr : b = false → r = outF (if s.data.toList.take 7 = [47, 116, 111, 112, 105, 99, 47] ∧ patB (s.data.toList.drop 7) = true then some (false, s.data.toList.drop 7) else none))
      (hr2 : b = true → r = (true, y, 0)) : Ev (fun k => topic_Find.j0 k s y b) r := by
    cases b with
    | true => rw [hr2 rfl]; exact Ev.step (f := fun _ => some (true, y, 0)) (fun k => by simp only [topic_Find.j0, if_true]) (Ev.now _)
    | false =>
      rw [hr rfl]
      refine Ev.step (fun k => by simp only [topic_Find.j0, Bool.false_eq_true, if_false, e2, Option.bind_some]; rfl) ?_
      by_cases h : s.data.toList.take 7 = [47, 116, 111, 112, 105, 99, 47]
      · simp only [h, if_true]
        refine Ev.bind (pat_ev _ hd) ?_
        simp only [true_and]
        by_cases h2 : patB (s.data.toList.drop 7) = true
        · simp only [h2, if_true]; exact Ev.now _
        · simp only [h2, Bool.false_eq_true, if_false]; exact Ev.now _
      · simp only [h, false_and, Bool.false_eq_true, if_false]; exact Ev.now _
  refine Ev.congr (fun k => by unfold topic_Find.f; rw [e1, Option.bind_some]) ?_
  unfold findB
  by_cases h : s.data.toList.take 7 = [47, 113, 117, 101, 117, 101, 47]
  · simp only [h, if_true, queue_is, Option.bind_some, true_and]
    refine hj _ _ _ ?_ ?_
    · intro hb
      simp only [hb, Bool.false_eq_true, if_false, h]
    · intro hb
      simp only [hb, if_true]; rfl
  · simp only [h, Bool.false_eq_true, if_false, false_and]
    exact hj _ _ _ (fun _ => rfl) (fun h => by simp at h)

theorem reffind_ev (s : ByteArray) (hs : s.size ≤ 1048576) : Ev (fun k => trivetref08_Find.f k s) (outF (findB s.data.toList)) := by
  have hl : s.data.toList.length = s.size := (Lib.size_eq s).symm
  have hd : (⟨(s.data.toList.drop 7).toArray⟩ : ByteArray).size ≤ 1048576 := by rw [Lib.size_eq]; simp; omega
  have hj (y : ByteArray) (hy : y.toList = s.data.toList.take 7) (b : Bool) (r) (hr : b = false → r = outF (if s.data.toList.take 7 = [47, 116, 111, 112, 105, 99, 47] ∧ patB (s.data.toList.drop 7) = true then some (false, s.data.toList.drop 7) else none))
      (hr2 : b = true → r = (true, ⟨(s.data.toList.drop 7).toArray⟩, 0)) : Ev (fun k => trivetref08_Find.j0 k y ⟨(s.data.toList.drop 7).toArray⟩ b) r := by
    cases b with
    | true => rw [hr2 rfl]; exact Ev.step (f := fun _ => some (true, _, 0)) (fun k => by simp only [trivetref08_Find.j0, if_true]) (Ev.now _)
    | false =>
      rw [hr rfl]
      refine Ev.step (fun k => by simp only [trivetref08_Find.j0, Bool.false_eq_true, if_false, hy]; rfl) ?_
      by_cases h : s.data.toList.take 7 = [47, 116, 111, 112, 105, 99, 47]
      · simp only [h, if_true]
        refine Ev.bind (refpat_ev _ hd) ?_
        simp only [true_and]
        by_cases h2 : patB (s.data.toList.drop 7) = true
        · simp only [h2, if_true]; exact Ev.now _
        · simp only [h2, Bool.false_eq_true, if_false]; exact Ev.now _
      · simp only [h, false_and, if_false]; exact Ev.now _
  unfold findB
  by_cases h7 : s.size < 7
  · have n1 (p : List UInt8) (hp : p.length = 7) : ¬ s.data.toList.take 7 = p := fun e => by
      have := congrArg List.length e
      rw [List.length_take] at this; omega
    have m1 := n1 [47, 113, 117, 101, 117, 101, 47] rfl
    have m2 := n1 [47, 116, 111, 112, 105, 99, 47] rfl
    simp only [m1, m2, false_and, if_false]
    exact Ev.congr (fun k => by unfold trivetref08_Find.f; rw [if_pos (by omega)]; rfl) (Ev.now _)
  refine Ev.congr (fun k => by unfold trivetref08_Find.f; rw [if_neg (by omega), if_pos (by omega), if_pos (by omega), ext_take, ext_drop]) ?_
  by_cases h : s.data.toList.take 7 = [47, 113, 117, 101, 117, 101, 47]
  · simp only [h, if_true, true_and]
    refine Ev.bind (name_ev _ hd) ?_
    refine hj _ (ext_take s 7) _ _ ?_ ?_
    · intro hb
      have hb : isName (s.data.toList.drop 7) = false := hb
      simp only [hb, Bool.false_eq_true, if_false, h]
    · intro hb
      have hb : isName (s.data.toList.drop 7) = true := hb
      simp only [hb, if_true]; rfl
  · simp only [h, if_false, false_and]
    exact hj _ (ext_take s 7) _ _ (fun _ => rfl) (fun h => by simp at h)

def placeB (q : Bool) : List UInt8 := if q = true then [47, 113, 117, 101, 117, 101, 47] else [47, 116, 111, 112, 105, 99, 47]
theorem place_now (q : Bool) (s : ByteArray) (hs : s.size ≤ 1048576) : topic_Place.f q s = some (⟨(placeB q ++ s.data.toList).toArray⟩) := by
  have e : s = ⟨s.data.toList.toArray⟩ := rfl
  unfold topic_Place.f placeB
  cases q
  · rw [if_neg (by simp), if_pos (by omega)]
    rw [if_neg (by simp)]; exact congrArg some (ba_app [47, 116, 111, 112, 105, 99, 47] s.data.toList)
  · rw [if_pos rfl, if_pos (by omega)]
    rw [if_pos rfl]; exact congrArg some (ba_app [47, 113, 117, 101, 117, 101, 47] s.data.toList)

theorem writes_rest (s : ByteArray) (q : Bool) (hs : s.size ≤ 4096) : Ev (fun k => trivetlaw08_TopicWrites.j1 k s q false) true := by
  have h7 : 7 + s.size ≤ 9223372036854775807 := by omega
  have hp (q : Bool) : topic_Place.f q s = some (⟨(placeB q ++ s.data.toList).toArray⟩) := place_now q s (by omega)
  have e1 := ba_app [47, 113, 117, 101, 117, 101, 47] s.data.toList
  have e2 := ba_app [47, 116, 111, 112, 105, 99, 47] s.data.toList
  have es : s = ⟨s.data.toList.toArray⟩ := rfl
  cases q
  · refine Ev.step (f := fun k => (topic_Find.f k s).bind fun x => (trivetref08_Find.f k s).bind fun y => if (x.1 == y.1) = true then if x.2.1.toList = y.2.1.toList then if x.2.2 = y.2.2 then some true else some false else some false else some false) (fun k => ?_) ?_
    · simp only [trivetlaw08_TopicWrites.j1, Bool.false_eq_true, if_false, hp, Option.bind_some, h7, if_true]
      have e : ((⟨(placeB false ++ s.data.toList).toArray⟩ : ByteArray).toList == ((⟨#[47, 116, 111, 112, 105, 99, 47]⟩ : ByteArray) ++ s).toList) = true := by
        rw [beq_iff_eq]; exact congrArg ByteArray.toList e2.symm
      rw [e]
    · refine Ev.bind (find_ev s (by omega)) (Ev.bind (reffind_ev s (by omega)) ?_)
      simp only [beq_self_eq_true, if_true]
      exact Ev.now _
  · refine Ev.step (f := fun k => (topic_Find.f k s).bind fun x => (trivetref08_Find.f k s).bind fun y => if (x.1 == y.1) = true then if x.2.1.toList = y.2.1.toList then if x.2.2 = y.2.2 then some true else some false else some false else some false) (fun k => ?_) ?_
    · simp only [trivetlaw08_TopicWrites.j1, Bool.false_eq_true, if_false, hp, Option.bind_some, h7, if_true]
      have e : ((⟨(placeB true ++ s.data.toList).toArray⟩ : ByteArray).toList == ((⟨#[47, 113, 117, 101, 117, 101, 47]⟩ : ByteArray) ++ s).toList) = true := by
        rw [beq_iff_eq]; exact congrArg ByteArray.toList e1.symm
      rw [e]
    · refine Ev.bind (find_ev s (by omega)) (Ev.bind (reffind_ev s (by omega)) ?_)
      simp only [beq_self_eq_true, if_true]
      exact Ev.now _
theorem TopicWrites : trivetlaw08_TopicWrites.Pure := by
  intro s q _
  refine Ev.rounds (r := true) (Ev.congr (fun k => by unfold trivetlaw08_TopicWrites.f; rfl) (Ev.bind wakes_ev ?_))
  simp only [if_true]
  by_cases h : (s.size : Int) > 4096
  · simp only [h, if_true]; exact Ev.now _
  simp only [h, if_false]
  have hs : s.size ≤ 4096 := by omega
  refine Ev.bind (slashes_ev s (by omega)) (Ev.bind (refslashes_ev s (by omega)) ?_)
  simp only [bne_self_eq_false, if_true]
  refine Ev.step (fun k => by simp only [trivetlaw08_TopicWrites.j0, Bool.false_eq_true, if_false]; rfl) (Ev.bind (dots_ev s hs) (Ev.bind (refdots_ev s (by omega)) ?_))
  simp only [bne_self_eq_false, if_true]
  exact writes_rest s q hs

theorem find_back (l : List UInt8) (q : Bool) (x : List UInt8) (h : findB l = some (q, x)) : placeB q ++ x = l := by
  unfold findB at h
  split at h
  · rename_i h1
    simp only [Option.some.injEq, Prod.mk.injEq] at h
    obtain ⟨rfl, rfl⟩ := h
    conv => rhs; rw [← List.take_append_drop 7 l, h1.1]
    rfl
  · split at h
    · rename_i h1
      simp only [Option.some.injEq, Prod.mk.injEq] at h
      obtain ⟨rfl, rfl⟩ := h
      conv => rhs; rw [← List.take_append_drop 7 l, h1.1]
      rfl
    · cases h
theorem back_find (s : ByteArray) (hs : s.size ≤ 4096) : Ev (fun k => (topic_Find.f k s).bind fun y => if y.2.2 = 0 then (topic_Place.f y.1 y.2.1).bind fun t => some (t.toList == s.toList) else some true) true := by
  have hl : s.data.toList.length = s.size := (Lib.size_eq s).symm
  refine Ev.bind (find_ev s (by omega)) ?_
  cases hf : findB s.data.toList with
  | none => exact Ev.now _
  | some v =>
    obtain ⟨q, x⟩ := v
    have hb := find_back _ q x hf
    have hx : x.length ≤ 4096 := by rw [← hl, ← hb, List.length_append] at hs; omega
    have e : topic_Place.f q ⟨x.toArray⟩ = some (⟨(placeB q ++ x).toArray⟩) := place_now q ⟨x.toArray⟩ (by rw [Lib.size_eq]; simp; omega)
    simp only [outF, if_true, e, Option.bind_some, hb]
    exact Ev.congr (fun k => by rw [show (⟨s.data.toList.toArray⟩ : ByteArray) = s from rfl, beq_self_eq_true]) (Ev.now _)
theorem back_j0 (s : ByteArray) (hs : s.size ≤ 4096) : Ev (fun k => trivetlaw08_TopicBack.j0 k s) true := by
  have hl : s.data.toList.length = s.size := (Lib.size_eq s).symm
  refine Ev.step (fun k => by simp only [trivetlaw08_TopicBack.j0]; rfl) (Ev.bind (dots_ev s hs) ?_)
  unfold dotsB
  by_cases h1 : hasDot s.data.toList = true
  · simp only [h1, if_true, out]
    exact back_find s hs
  by_cases h2 : patB (s.data.toList.map (sub 47 46 43 42)) = true
  · simp only [h1, h2, if_true, Bool.false_eq_true, if_false, out]
    refine Ev.bind (slashes_ev ⟨(s.data.toList.map (sub 47 46 43 42)).toArray⟩ (by rw [Lib.size_eq]; simp; omega)) ?_
    unfold slashB
    simp only [h2, if_true, out, back_dots _ (Bool.eq_false_iff.2 h1)]
    refine Ev.step (f := fun k => (topic_Find.f k s).bind fun y => if y.2.2 = 0 then (topic_Place.f y.1 y.2.1).bind fun t => some (t.toList == s.toList) else some true) (fun k => ?_) (back_find s hs)
    rw [show (⟨s.data.toList.toArray⟩ : ByteArray) = s from rfl]
    simp only [trivetlaw08_TopicBack.j1, bne_self_eq_false, Bool.false_eq_true, if_false]
  · simp only [h1, h2, Bool.false_eq_true, if_false, out]
    exact back_find s hs
theorem TopicBack : trivetlaw08_TopicBack.Pure := by
  intro s _
  refine Ev.rounds (r := true) (Ev.congr (fun k => by unfold trivetlaw08_TopicBack.f; rfl) (Ev.bind wakes_ev ?_))
  simp only [if_true]
  by_cases h : (s.size : Int) > 4096
  · simp only [h, if_true]; exact Ev.now _
  simp only [h, if_false]
  have hs : s.size ≤ 4096 := by omega
  have hl : s.data.toList.length = s.size := (Lib.size_eq s).symm
  refine Ev.bind (slashes_ev s (by omega)) ?_
  unfold slashB
  by_cases h1 : patB s.data.toList = true
  · simp only [h1, if_true, out]
    have hlen := pat_size _ h1
    obtain ⟨b1, b2⟩ := back_pat _ h1
    refine Ev.bind (dots_ev ⟨(s.data.toList.map (sub 46 47 42 43)).toArray⟩ (by rw [Lib.size_eq]; simp; omega)) ?_
    have e : topic_Place.f false s = some (⟨(placeB false ++ s.data.toList).toArray⟩) := place_now false s (by omega)
    have ed : dotsB (s.data.toList.map (sub 46 47 42 43)) = some s.data.toList := by
      unfold dotsB
      rw [b2, b1, if_neg (by simp), if_pos h1]
    have ef : findB (placeB false ++ s.data.toList) = some (false, s.data.toList) := by
      unfold findB placeB
      simp [h1]
    simp only [e, Option.bind_some, ed, out]
    refine Ev.bind (find_ev ⟨(placeB false ++ s.data.toList).toArray⟩ (by rw [Lib.size_eq]; simp [placeB]; omega)) ?_
    simp only [ef, outF, if_true, Bool.false_eq_true, if_false]
    exact back_j0 s hs
  · simp only [h1, Bool.false_eq_true, if_false, out]
    exact back_j0 s hs
end Go.Proofs.YtednegmjjjdinaaDoor.U
