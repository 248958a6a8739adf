/- The laws TopicMatches and TopicCovers, TopicParts, TopicStars, TopicWhole, as statements on the printed functions. -/
import Derived.Test.YtednegmjjjdinaaDoorQ9
import Derived.Test.YtednegmjjjdinaaDoorU2
import Derived.Test.YtednegmjjjdinaaDoorM2
namespace Go.Proofs.YtednegmjjjdinaaDoor.U
open Go.RowKit Go.Proofs.YtednegmjjjdinaaDoorW.PrintWords Go.Proofs.YtednegmjjjdinaaDoorW.PrintLast Go.Proofs.YtednegmjjjdinaaDoor.Q Go.Proofs.YtednegmjjjdinaaDoor.QW Go.Proofs.YtednegmjjjdinaaDoor.Ext Go.Proofs.YtednegmjjjdinaaDoor.M

theorem TopicMatches (a b : ByteArray) (ha : a.size ≤ 1048576) (hb : b.size ≤ 1048576) : ∃ k, trivetlaw08_TopicMatches.f k a b = some true := by
  refine Ev.rounds (r := true) (Ev.congr (fun k => by unfold trivetlaw08_TopicMatches.f; rfl) (Ev.bind wakes_ev ?_))
  simp only [if_true]
  refine Ev.congr (fun k => by rw [good_now a ha, Option.bind_some]) (Ev.bind (refgood_ev a ha) ?_)
  simp only [beq_self_eq_true, if_true]
  refine Ev.bind (pat_ev a ha) (Ev.bind (refpat_ev a ha) ?_)
  simp only [beq_self_eq_true, if_true]
  refine Ev.bind (match_ev a b ha hb) (Ev.bind (refmatch_ev a b ha hb) ?_)
  simp only [beq_self_eq_true, if_true]
  refine Ev.bind (cover_ev a b ha hb) (Ev.bind (refcover_ev a b ha hb) ?_)
  simp only [beq_self_eq_true]
  exact Ev.now _

theorem TopicCovers (a b c : ByteArray) (ha : a.size ≤ 1048576) (hb : b.size ≤ 1048576) (hc : c.size ≤ 1048576) : ∃ k, trivetlaw08_TopicCovers.f k a b c = some true := by
  refine Ev.rounds (r := true) (Ev.congr (fun k => by unfold trivetlaw08_TopicCovers.f; rfl) (Ev.bind wakes_ev ?_))
  simp only [if_true]
  refine Ev.bind (pat_ev a ha) (Ev.bind (cover_ev a a ha ha) ?_)
  rw [cover_self]
  simp only [bne_self_eq_false, Bool.false_eq_true, if_false]
  refine Ev.bind (cover_ev a b ha hb) ?_
  by_cases h : coverB a.data.toList b.data.toList = true
  · simp only [h, if_true]
    have hj : Ev (fun k => trivetlaw08_TopicCovers.j0 k a b c false) true := by
      refine Ev.step (fun k => by simp only [trivetlaw08_TopicCovers.j0, Bool.false_eq_true, if_false]; rfl) (Ev.bind (cover_ev b c hb hc) ?_)
      by_cases h2 : coverB b.data.toList c.data.toList = true
      · simp only [h2, if_true]
        refine Ev.bind (cover_ev a c ha hc) ?_
        rw [cover_cover _ _ _ h h2]
        exact Ev.now _
      · simp only [h2, Bool.false_eq_true, if_false]; exact Ev.now _
    refine Ev.bind (match_ev b c hb hc) ?_
    by_cases h2 : matchB b.data.toList c.data.toList = true
    · simp only [h2, if_true]
      refine Ev.bind (match_ev a c ha hc) ?_
      rw [cover_match _ _ _ h h2]
      exact hj
    · simp only [h2, Bool.false_eq_true, if_false]; exact hj
  · simp only [h, Bool.false_eq_true, if_false]; exact Ev.now _

theorem list_eq (a b : ByteArray) : (a.toList == b.toList) = decide (a.data.toList = b.data.toList) := by
  rw [Lib.toList_data, Lib.toList_data, Bool.eq_iff_iff, beq_iff_eq, decide_eq_true_iff]
theorem TopicWhole : trivetlaw08_TopicWhole.Pure := by
  intro a b _ _
  refine Ev.rounds (r := true) (Ev.congr (fun k => by unfold trivetlaw08_TopicWhole.f; rfl) (Ev.bind wakes_ev ?_))
  simp only [if_true]
  have hj0 : Ev (fun k => trivetlaw08_TopicWhole.j0 k a b true) true := Ev.step (f := fun k => some true) (fun k => by simp only [trivetlaw08_TopicWhole.j0, if_true]) (Ev.now _)
  by_cases ha : (a.size : Int) > 4096
  · simp only [ha, if_true]; exact hj0
  simp only [ha, if_false]
  by_cases hb : (b.size : Int) > 4096
  · simp only [hb, decide_true]; exact hj0
  simp only [hb, decide_false]
  have ha' : a.size ≤ 1048576 := by omega
  have hb' : b.size ≤ 1048576 := by omega
  have hla : a.data.toList.length = a.size := (Lib.size_eq a).symm
  refine Ev.step (fun k => by simp only [trivetlaw08_TopicWhole.j0, Bool.false_eq_true, if_false]; rw [good_now a ha', Option.bind_some]) ?_
  have hj2 : Ev (fun k => trivetlaw08_TopicWhole.j2 k a b false) true := by
    by_cases g1 : M.goodB a.data.toList = true
    · by_cases g2 : M.goodB b.data.toList = true
      · refine Ev.step (f := fun k => (topic_Match.f k a b).bind fun t => if (t == (a.toList == b.toList)) = true then (topic_Covers.f k a b).bind fun t2 => some (t2 == (a.toList == b.toList)) else some false)
          (fun k => by simp only [trivetlaw08_TopicWhole.j2, Bool.false_eq_true, if_false, good_now a ha', good_now b hb', Option.bind_some, g1, g2, if_true]) ?_
        obtain ⟨e1, e2⟩ := same_match _ _ g1 g2
        refine Ev.bind (match_ev a b ha' hb') ?_
        rw [e1, list_eq]
        simp only [beq_self_eq_true, if_true]
        refine Ev.bind (cover_ev a b ha' hb') ?_
        rw [e2]
        simp only [beq_self_eq_true]
        exact Ev.now _
      · exact Ev.step (f := fun k => some true) (fun k => by simp only [trivetlaw08_TopicWhole.j2, Bool.false_eq_true, if_false, good_now a ha', good_now b hb', Option.bind_some, g1, g2, if_true]) (Ev.now _)
    · exact Ev.step (f := fun k => some true) (fun k => by simp only [trivetlaw08_TopicWhole.j2, Bool.false_eq_true, if_false, good_now a ha', Option.bind_some, g1]) (Ev.now _)
  have loop : ∀ d i : Nat, i + d = a.data.toList.length → Ev (fun k => trivetlaw08_TopicWhole.l0 k a b (M.goodB a.data.toList && (a.data.toList.take i).all fun x => x != 46) (i : Int)) true := by
    intro d
    induction d with
    | zero =>
      intro i hi
      have h35 : (⟨#[35]⟩ : ByteArray).data.toList = [35] := rfl
      have h42 : (⟨#[42]⟩ : ByteArray).data.toList = [42] := rfl
      rw [List.take_of_length_le (by omega)]
      refine Ev.step (fun k => by simp only [trivetlaw08_TopicWhole.l0]; rw [if_neg (by omega)]) (Ev.bind (cover_ev ⟨#[35]⟩ a (by decide) ha') (Ev.bind (pat_ev a ha') ?_))
      rw [h35, hash_covers]
      simp only [bne_self_eq_false, Bool.false_eq_true, if_false]
      refine Ev.bind (match_ev ⟨#[35]⟩ a (by decide) ha') (Ev.congr (fun k => by rw [good_now a ha', Option.bind_some]) ?_)
      rw [h35, hash_match]
      simp only [bne_self_eq_false, Bool.false_eq_true, if_false]
      refine Ev.bind (match_ev ⟨#[42]⟩ a (by decide) ha') ?_
      rw [h42, star_match]
      simp only [bne_self_eq_false]
      exact hj2
    | succ d ih =>
      intro i hi
      have hlt : i < a.data.toList.length := by omega
      have IH := ih (i + 1) (by omega)
      rw [take_snoc _ i hlt, List.all_append, ← Bool.and_assoc] at IH
      refine Ev.step (f := fun k => trivetlaw08_TopicWhole.l0 k a b (M.goodB a.data.toList && ((a.data.toList.take i).all fun x => x != 46) && ([a.data.toList[i]].all fun x => x != 46)) ((i + 1 : Nat) : Int)) (fun k => ?_) IH
      simp only [trivetlaw08_TopicWhole.l0]
      rw [if_pos (by omega), wsucc i (by omega), bt_list a i hlt]
      cases (M.goodB a.data.toList && ((a.data.toList.take i).all fun x => x != 46))
      · simp
      · rw [if_pos rfl, if_pos (by omega)]
        congr 1
        simp only [List.all_cons, List.all_nil, Bool.and_true, Bool.true_and]
        rw [Bool.eq_iff_iff, bne_iff_ne, bne_iff_ne]
        refine not_congr ?_
        rw [← UInt8.toNat_inj]
        show _ ↔ _ = 46
        omega
  have := loop a.data.toList.length 0 (by omega)
  rw [List.take_zero, List.all_nil, Bool.and_true] at this
  exact this

theorem app_list (a b : ByteArray) : (a ++ b).data.toList = a.data.toList ++ b.data.toList := by simp
theorem good_len (s : ByteArray) (h : M.goodB s.data.toList = true) : s.size ≤ 64 ∧ (words s.data.toList).length ≤ 8 := by
  obtain ⟨h1, h2, _⟩ := (good_iff _).1 h
  rw [Lib.size_eq]; exact ⟨h1, h2⟩
theorem TopicParts (a b : ByteArray) (ha : a.size ≤ 1048576) (hb : b.size ≤ 1048576) : ∃ k, trivetlaw08_TopicParts.f k a b = some true := by
  refine Ev.rounds (r := true) (Ev.congr (fun k => by unfold trivetlaw08_TopicParts.f; rfl) (Ev.bind wakes_ev ?_))
  simp only [if_true]
  have hj0 : Ev (fun k => trivetlaw08_TopicParts.j0 k a b true) true := Ev.step (f := fun k => some true) (fun k => by simp only [trivetlaw08_TopicParts.j0, if_true]) (Ev.now _)
  refine Ev.congr (fun k => by rw [good_now a ha, Option.bind_some, good_now b hb]) ?_
  by_cases g1 : M.goodB a.data.toList = true
  · by_cases g2 : M.goodB b.data.toList = true
    · simp only [g1, g2, if_true, Option.bind_some, Bool.not_true]
      obtain ⟨la, wa⟩ := good_len a g1
      obtain ⟨lb, wb⟩ := good_len b g2
      refine Ev.step (fun k => by simp only [trivetlaw08_TopicParts.j0, Bool.false_eq_true, if_false]; rfl) (Ev.bind (words_ev a ha) (Ev.bind (words_ev b hb) ?_))
      rw [bas_length, bas_length]
      have e1 : wrap64 (wrap64 ((a.size : Int) + (b.size : Int)) + 1) = (a.size : Int) + (b.size : Int) + 1 := by unfold wrap64; omega
      have e2 : wrap64 (((words a.data.toList).length : Int) + ((words b.data.toList).length : Int)) = ((words a.data.toList).length : Int) + ((words b.data.toList).length : Int) := by unfold wrap64; omega
      rw [e1, e2]
      have hab : ((a ++ ⟨#[46]⟩) ++ b : ByteArray).data.toList = a.data.toList ++ 46 :: b.data.toList := by simp
      have hah : (a ++ ⟨#[46, 35]⟩ : ByteArray).data.toList = a.data.toList ++ [46, 35] := by simp
      have hg := parts_good _ _ g1 g2
      rw [← Lib.size_eq, ← Lib.size_eq] at hg
      have sab : ((a ++ ⟨#[46]⟩) ++ b : ByteArray).size ≤ 1048576 := by
        rw [Lib.size_eq, hab]; rw [Lib.size_eq] at la lb; simp at la lb ⊢; omega
      have sah : (a ++ ⟨#[46, 35]⟩ : ByteArray).size ≤ 1048576 := by
        rw [Lib.size_eq, hah]; rw [Lib.size_eq] at la; simp at la ⊢; omega
      have sa1 : (a ++ ⟨#[46]⟩ : ByteArray).size + b.size ≤ 9223372036854775807 := by
        rw [Lib.size_eq (a ++ _), app_list]; rw [Lib.size_eq] at la; simp at la ⊢; omega
      have hj1 : ∀ f : Bool, f = (decide (a.size + b.size + 1 ≤ 64) && decide ((words a.data.toList).length + (words b.data.toList).length ≤ 8)) → Ev (fun k => trivetlaw08_TopicParts.j1 k a b f) true := by
        intro f hf
        rw [← hg, ← hab] at hf
        refine Ev.step (fun k => by simp only [trivetlaw08_TopicParts.j1]; rw [if_pos (by omega), if_pos sa1, good_now _ sab, Option.bind_some, ← hf]) ?_
        simp only [bne_self_eq_false, Bool.false_eq_true, if_false]
        cases hff : f
        · simp only [Bool.false_eq_true, if_false]; exact Ev.now _
        · rw [hff] at hf
          simp only [if_true]
          refine Ev.congr (fun k => by rw [if_pos (by omega)]) (Ev.bind (pat_ev _ sah) ?_)
          by_cases hp : patB (a ++ ⟨#[46, 35]⟩ : ByteArray).data.toList = true
          · simp only [hp, if_true]
            rw [hah] at hp
            have hf2 := hf.symm
            rw [hab] at hf2
            obtain ⟨m1, m2⟩ := parts_match _ _ g1 hf2 hp
            refine Ev.bind (match_ev _ _ sah sab) ?_
            rw [hah, hab, m1]
            simp only [if_true]
            refine Ev.bind (match_ev _ _ sah ha) ?_
            rw [hah, m2]
            exact Ev.now _
          · simp only [hp, Bool.false_eq_true, if_false]; exact Ev.now _
      by_cases h1 : (a.size : Int) + (b.size : Int) + 1 ≤ 64
      · simp only [h1, if_true]
        refine hj1 _ ?_
        rw [decide_eq_true (by omega : a.size + b.size + 1 ≤ 64), Bool.true_and, Bool.eq_iff_iff, decide_eq_true_iff, decide_eq_true_iff]
        omega
      · simp only [h1, if_false]
        refine hj1 _ ?_
        rw [decide_eq_false (by omega : ¬ a.size + b.size + 1 ≤ 64), Bool.false_and]
    · simp only [g1, g2, if_true, Option.bind_some]; exact hj0
  · simp only [g1, Bool.false_eq_true, if_false]; exact hj0
end Go.Proofs.YtednegmjjjdinaaDoor.U
