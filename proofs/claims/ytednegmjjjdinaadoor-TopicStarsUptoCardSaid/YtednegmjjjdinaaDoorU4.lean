/- The law TopicStars, as a statement on the printed functions. -/
import Derived.Test.YtednegmjjjdinaaDoorU3
namespace Go.Proofs.YtednegmjjjdinaaDoor.U
open Go.RowKit Go.Proofs.YtednegmjjjdinaaDoorW.PrintWords Go.Proofs.YtednegmjjjdinaaDoorW.PrintLast Go.Proofs.YtednegmjjjdinaaDoor.Q Go.Proofs.YtednegmjjjdinaaDoor.QW Go.Proofs.YtednegmjjjdinaaDoor.Ext Go.Proofs.YtednegmjjjdinaaDoor.M

def ba (l : List UInt8) : ByteArray := ⟨l.toArray⟩
theorem ba_data (l : List UInt8) : (ba l).data.toList = l := rfl
theorem ba_size (l : List UInt8) : (ba l).size = l.length := Lib.size_eq (ba l)
theorem app_ba (a b : List UInt8) : ba a ++ ba b = ba (a ++ b) := ba_app a b
/-- The first k words, the one at i a star. -/
def starred (W : List (List UInt8)) (i k : Nat) : List (List UInt8) := (W.set i [42]).take k
/-- What stands ahead of the star. -/
def ahead (W : List (List UInt8)) (i k : Nat) : List UInt8 := if k ≤ i then [] else if i = 0 then [] else inter (W.take i) ++ [46]

theorem starred_step (W : List (List UInt8)) (i k : Nat) (hk : k < W.length) : starred W i (k + 1) = starred W i k ++ [if k = i then [42] else W[k]] := by
  unfold starred
  rw [List.take_succ_eq_append_getElem (by simpa using hk)]
  congr 2
  rw [List.getElem_set]
  by_cases h : i = k
  · rw [if_pos h, if_pos h.symm]
  · rw [if_neg h, if_neg (fun e => h e.symm)]
theorem starred_before (W : List (List UInt8)) (i k : Nat) (hk : k ≤ i) : starred W i k = W.take k := by
  unfold starred
  rw [List.take_set_of_le hk]
theorem starred_nil (W : List (List UInt8)) (i k : Nat) (hk : k ≤ W.length) : starred W i k = [] ↔ k = 0 := by
  unfold starred
  rw [List.take_eq_nil_iff]
  constructor
  · rintro (h | h)
    · exact h
    · have := congrArg List.length h
      simp at this
      simp [this] at hk
      exact hk
  · exact .inl

theorem stars_loop (s : ByteArray) (hs : s.size ≤ 1048576) (hg : M.goodB s.data.toList = true) (i : Nat) (hi : i < (words s.data.toList).length) (d : Nat) : ∀ k : Nat, k + d = (words s.data.toList).length →
    (inter (starred (words s.data.toList) i k)).length ≤ 17 * k →
    Ev (fun n => trivetlaw08_TopicStars.l0 n s (i : Int) (ba (inter (starred (words s.data.toList) i k))) (ba (ahead (words s.data.toList) i k)) (bas (words s.data.toList)) ((words s.data.toList).length : Int) (k : Int)) true := by
  obtain ⟨l1, l2, l3⟩ := (good_iff _).1 hg
  have hso := star_ok _ hg i hi
  have hho := hash_ok _ hg i hi
  have hmo := more_no _ hg
  have hsize : s.size ≤ 64 := by rw [Lib.size_eq]; exact l1
  have hlen16 : ∀ w ∈ words s.data.toList, w.length ≤ 16 := fun w hw => by
    have := List.all_eq_true.1 l3 w hw
    unfold isName at this
    simp at this
    exact this.1.2
  induction d with
  | zero =>
    intro k hk hb
    have hkW : k = (words s.data.toList).length := by omega
    have hp : starred (words s.data.toList) i k = (words s.data.toList).set i [42] := by
      unfold starred; exact List.take_of_length_le (by simp; omega)
    rw [hp] at hb ⊢
    have hqe : ahead (words s.data.toList) i k ++ [35] = inter ((words s.data.toList).take i ++ [[35]]) := by
      unfold ahead
      rw [if_neg (by omega), inter_snoc]
      by_cases h0 : i = 0
      · subst h0; simp
      · rw [if_neg h0, if_neg (by
          intro e
          have := congrArg List.length e
          rw [List.length_take, List.length_nil] at this
          omega)]
        simp
    have hql : (ahead (words s.data.toList) i k).length ≤ 17 * 8 := by
      unfold ahead
      rw [if_neg (by omega)]
      split
      · simp
      · have e := inter_len ((words s.data.toList).take i)
        have hsum : ∀ l : List (List UInt8), (∀ w ∈ l, w.length ≤ 16) → (l.map fun w => w.length + 1).sum ≤ 17 * l.length := by
          intro l
          induction l with
          | nil => intro _; simp
          | cons x l ih =>
            intro h
            have h1 := h x (by simp)
            have h2 := ih (fun w hw => h w (List.mem_cons_of_mem _ hw))
            simp at h2 ⊢
            omega
        have h3 := hsum ((words s.data.toList).take i) (fun w hw => hlen16 w (List.mem_of_mem_take hw))
        have h4 : ((words s.data.toList).take i).length = i := by rw [List.length_take]; omega
        rw [h4] at h3
        rw [if_neg (by
          intro e
          have := congrArg List.length e
          rw [List.length_take, List.length_nil] at this
          omega)] at e
        simp only [List.length_append, List.length_cons, List.length_nil]
        omega
    have hp2 : (ba (inter ((words s.data.toList).set i [42]))).size ≤ 1048576 := by rw [ba_size]; omega
    refine Ev.step (fun n => by simp only [trivetlaw08_TopicStars.l0]; rw [if_neg (by omega)]) (Ev.bind (match_ev _ s hp2 hs) ?_)
    rw [ba_data, hso]
    simp only [if_true]
    have hmore : Ev (fun n => (topic_Match.f n (s ++ (⟨#[46, 97, 46, 35]⟩ : ByteArray)) s).bind fun t142 => (some (!t142))) true := by
      refine Ev.bind (match_ev _ s (by rw [Lib.size_eq, app_list]; rw [Lib.size_eq] at hsize; simp at hsize ⊢; omega) hs) ?_
      rw [app_list]
      have : (s.data.toList ++ (⟨#[46, 97, 46, 35]⟩ : ByteArray).data.toList) = s.data.toList ++ [46, 97, 46, 35] := rfl
      rw [this, hmo]
      exact Ev.now _
    by_cases h63 : ((ba (ahead (words s.data.toList) i k)).size : Int) < 63
    · simp only [h63, if_true]
      rw [ba_size] at h63
      refine Ev.congr (fun n => by rw [if_pos (by rw [ba_size]; omega)]) (Ev.bind (match_ev _ s (by rw [show (⟨#[35]⟩ : ByteArray) = ba [35] from rfl, app_ba, ba_size]; simp only [List.length_append, List.length_cons, List.length_nil]; omega) hs) ?_)
      rw [show (⟨#[35]⟩ : ByteArray) = ba [35] from rfl, app_ba, ba_data, hqe, hho (by rw [← hqe]; simp only [List.length_append, List.length_cons, List.length_nil]; omega)]
      simp only [if_true]
      exact Ev.congr (fun n => by rw [if_pos (by omega)]) hmore
    · simp only [h63, if_false]
      exact Ev.congr (fun n => by rw [if_pos (by omega)]) hmore
  | succ d ih =>
    intro k hk hb
    have hlt : k < (words s.data.toList).length := by omega
    have IH := ih (k + 1) (by omega)
    have hw16 := hlen16 _ (List.getElem_mem hlt)
    rw [starred_step _ _ _ hlt] at IH
    rw [inter_snoc] at IH
    have hnil := starred_nil (words s.data.toList) i k (by omega)
    have hwk : rdOf ByteArray.empty (bas (words s.data.toList)) (k : Int) = ba (words s.data.toList)[k] := rd_bas _ k hlt
    have hsz46 : (⟨#[46]⟩ : ByteArray) = ba [46] := rfl
    have hsz42 : (⟨#[42]⟩ : ByteArray) = ba [42] := rfl
    by_cases h0 : k = 0
    · rw [if_pos (hnil.2 h0)] at IH
      have e0 : starred (words s.data.toList) i k = [] := hnil.2 h0
      have einter : inter ([] : List (List UInt8)) = [] := rfl
      by_cases hki : k = i
      · rw [if_pos hki] at IH
        have ea : ahead (words s.data.toList) i k = [] := by unfold ahead; rw [if_pos (by omega)]
        have ea1 : ahead (words s.data.toList) i (k + 1) = [] := by unfold ahead; rw [if_neg (by omega), if_pos (by omega)]
        rw [ea1] at IH
        refine Ev.step (f := fun n => trivetlaw08_TopicStars.l0 n s (i : Int) (ba [42]) (ba []) (bas (words s.data.toList)) ((words s.data.toList).length : Int) ((k + 1 : Nat) : Int)) (fun n => ?_) (IH (by simp; omega))
        simp only [trivetlaw08_TopicStars.l0]
        rw [if_pos (by omega), if_pos (by omega), if_pos (by rw [bas_length]; omega), if_neg (by omega), if_pos (by omega), e0, einter, wsucc k (by omega), hsz42, app_ba, if_pos (by rw [ba_size]; simp)]
        rfl
      · rw [if_neg hki] at IH
        have ea : ahead (words s.data.toList) i k = [] := by unfold ahead; rw [if_pos (by omega)]
        have ea1 : ahead (words s.data.toList) i (k + 1) = [] := by unfold ahead; rw [if_pos (by omega)]
        rw [ea1] at IH
        refine Ev.step (f := fun n => trivetlaw08_TopicStars.l0 n s (i : Int) (ba (words s.data.toList)[k]) (ba []) (bas (words s.data.toList)) ((words s.data.toList).length : Int) ((k + 1 : Nat) : Int)) (fun n => ?_) (IH (by omega))
        simp only [trivetlaw08_TopicStars.l0]
        rw [if_pos (by omega), if_pos (by omega), if_pos (by rw [bas_length]; omega), if_neg (by omega), if_neg (by omega), e0, einter, wsucc k (by omega), hwk, app_ba, if_pos (by rw [ba_size, ba_size]; simp; omega), ea]
        rfl
    · rw [if_neg (fun e => h0 (hnil.1 e))] at IH
      by_cases hki : k = i
      · rw [if_pos hki] at IH
        have ea : ahead (words s.data.toList) i k = [] := by unfold ahead; rw [if_pos (by omega)]
        have ea1 : ahead (words s.data.toList) i (k + 1) = inter (starred (words s.data.toList) i k) ++ [46] := by
          unfold ahead
          rw [if_neg (by omega), if_neg (by omega), starred_before _ _ _ (by omega), hki]
        rw [ea1] at IH
        refine Ev.step (f := fun n => trivetlaw08_TopicStars.l0 n s (i : Int) (ba (inter (starred (words s.data.toList) i k) ++ 46 :: [42])) (ba (inter (starred (words s.data.toList) i k) ++ [46])) (bas (words s.data.toList)) ((words s.data.toList).length : Int) ((k + 1 : Nat) : Int)) (fun n => ?_) (IH (by simp; omega))
        simp only [trivetlaw08_TopicStars.l0]
        rw [if_pos (by omega), if_pos (by omega), if_pos (by rw [bas_length]; omega), if_pos (by omega), if_pos (by rw [ba_size]; omega), if_pos (by omega), hsz46, hsz42, app_ba, app_ba, if_pos (by rw [ba_size]; simp; omega), wsucc k (by omega)]
        congr 2
        simp
      · rw [if_neg hki] at IH
        have ea1 : ahead (words s.data.toList) i (k + 1) = ahead (words s.data.toList) i k := by
          unfold ahead
          by_cases h : k < i
          · simp only [show k + 1 ≤ i by omega, show k ≤ i by omega, if_true]
          · simp only [show ¬ k + 1 ≤ i by omega, show ¬ k ≤ i by omega, if_false]
        rw [ea1] at IH
        refine Ev.step (f := fun n => trivetlaw08_TopicStars.l0 n s (i : Int) (ba (inter (starred (words s.data.toList) i k) ++ 46 :: (words s.data.toList)[k])) (ba (ahead (words s.data.toList) i k)) (bas (words s.data.toList)) ((words s.data.toList).length : Int) ((k + 1 : Nat) : Int)) (fun n => ?_) (IH (by simp; omega))
        simp only [trivetlaw08_TopicStars.l0]
        rw [if_pos (by omega), if_pos (by omega), if_pos (by rw [bas_length]; omega), if_pos (by omega), if_pos (by rw [ba_size]; omega), if_neg (by omega), hsz46, hwk, app_ba, app_ba, if_pos (by rw [ba_size, ba_size]; simp; omega), wsucc k (by omega)]
        congr 2
        simp

theorem TopicStars (s : ByteArray) (i : Int) (hs : s.size ≤ 1048576) : ∃ k, trivetlaw08_TopicStars.f k s i = some true := by
  refine Ev.rounds (r := true) (Ev.congr (fun k => by unfold trivetlaw08_TopicStars.f; rfl) (Ev.bind wakes_ev ?_))
  simp only [if_true]
  refine Ev.congr (fun k => by rw [good_now s hs, Option.bind_some]) ?_
  by_cases hg : M.goodB s.data.toList = true
  · simp only [hg, if_true]
    have hsame := (same_match _ _ hg hg).1
    rw [decide_eq_true rfl] at hsame
    have hj : Ev (fun k => trivetlaw08_TopicStars.j0 k s i (bas (words s.data.toList)) true) true := by
      refine Ev.step (fun k => by simp only [trivetlaw08_TopicStars.j0, if_true]; rfl) (Ev.bind (match_ev s s hs hs) ?_)
      rw [hsame]
      simp only [if_true]
      refine Ev.bind (match_ev ⟨#[35]⟩ s (by decide) hs) ?_
      have h35 : (⟨#[35]⟩ : ByteArray).data.toList = [35] := rfl
      rw [h35, hash_match, hg]
      exact Ev.now _
    refine Ev.bind (words_ev s hs) ?_
    rw [bas_length]
    by_cases h0 : i < 0
    · simp only [h0, if_true]; exact hj
    · simp only [h0, if_false]
      by_cases h1 : i ≥ ((words s.data.toList).length : Int)
      · rw [decide_eq_true h1]; exact hj
      · rw [decide_eq_false h1]
        obtain ⟨n, rfl⟩ := Int.eq_ofNat_of_zero_le (by omega : 0 ≤ i)
        have := stars_loop s hs hg n (by omega) (words s.data.toList).length 0 (by omega) (by simp [starred, inter, List.intercalate])
        refine Ev.step (fun k => by simp only [trivetlaw08_TopicStars.j0, Bool.false_eq_true, if_false]; rw [bas_length]) ?_
        have e1 : ba (inter (starred (words s.data.toList) n 0)) = ⟨#[]⟩ := rfl
        have e2 : ba (ahead (words s.data.toList) n 0) = ⟨#[]⟩ := by unfold ahead; rw [if_pos (by omega)]; rfl
        rw [e1, e2] at this
        exact this
  · simp only [hg, Bool.false_eq_true, if_false]
    refine Ev.bind (match_ev s s hs hs) ?_
    have : matchB s.data.toList s.data.toList = false := by
      unfold matchB; rw [Bool.eq_false_iff.2 hg]; simp
    rw [this]
    exact Ev.now _
end Go.Proofs.YtednegmjjjdinaaDoor.U
