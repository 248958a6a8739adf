-- Written by a program of this claim's author (myprint) out of the loaded functions' own print. Not trusted: Lean checks it.
import Derived.Test.YtednegmjjjdinaaDoorQ0
import Derived.Test.YtednegmjjjdinaaDoorQ1
import Derived.Test.YtednegmjjjdinaaDoorQ9
import Derived.Test.YtednegmjjjdinaaDoorQ10
namespace Go.Proofs.YtednegmjjjdinaaDoor.Q
open Go.RowKit Go.Proofs.YtednegmjjjdinaaDoor.Ext Go.Proofs.YtednegmjjjdinaaDoor.QW Go.Proofs.YtednegmjjjdinaaDoorW.PrintWords Go.Proofs.YtednegmjjjdinaaDoorW.PrintLast Go.Proofs.YtednegmjjjdinaaDoorW.PrintMore
attribute [local go_sem] max2_int min2_int max_two min_two max_three min_three max_four min_four   -- for this text's walks alone
set_option linter.unusedVariables false
set_option linter.unusedSimpArgs false

/-! ### trivetlaw08_TopicWrites: function 8 -/
mutual
def trivetlaw08_TopicWrites.j0 : Nat → ByteArray → Bool → Bool → Option (Bool)
  | 0, _, _, _ => none
  | k + 1, x0, x1, x34 => if x34 = true then (some false) else ((topic_Dots.f k x0).bind fun bt277 => ((trivetref08_Dots.f k x0).bind fun bt279 => (if bt277.1.toList = bt279.1.toList then (trivetlaw08_TopicWrites.j1 k x0 x1 (bt277.2 != bt279.2)) else (trivetlaw08_TopicWrites.j1 k x0 x1 true))))
def trivetlaw08_TopicWrites.j1 : Nat → ByteArray → Bool → Bool → Option (Bool)
  | 0, _, _, _ => none
  | k + 1, x0, x1, x52 => if x52 = true then (some false) else (if x1 = true then ((topic_Find.f k x0).bind fun bt281 => ((trivetref08_Find.f k x0).bind fun bt284 => (if (bt281.1 == bt284.1) = true then (if bt281.2.1.toList = bt284.2.1.toList then (if bt281.2.2 = bt284.2.2 then ((topic_Place.f x1 x0).bind fun t287 => (if 7 + x0.size ≤ 9223372036854775807 then (some (t287.toList == ((⟨#[47, 113, 117, 101, 117, 101, 47]⟩ : ByteArray) ++ x0).toList)) else (none))) else (some false)) else (some false)) else (some false)))) else ((topic_Find.f k x0).bind fun bt288 => ((trivetref08_Find.f k x0).bind fun bt291 => (if (bt288.1 == bt291.1) = true then (if bt288.2.1.toList = bt291.2.1.toList then (if bt288.2.2 = bt291.2.2 then ((topic_Place.f x1 x0).bind fun t294 => (if 7 + x0.size ≤ 9223372036854775807 then (some (t294.toList == ((⟨#[47, 116, 111, 112, 105, 99, 47]⟩ : ByteArray) ++ x0).toList)) else (none))) else (some false)) else (some false)) else (some false)))))
end
def trivetlaw08_TopicWrites.f (k : Nat) (a0 : ByteArray) (a1 : Bool) : Option (Bool) := (trivetlaw08_wakes.f k).bind fun t272 => (if t272 = true then (if (a0.size : Int) > 4096 then (some true) else ((topic_Slashes.f k a0).bind fun bt273 => ((trivetref08_Slashes.f k a0).bind fun bt275 => (if bt273.1.toList = bt275.1.toList then (trivetlaw08_TopicWrites.j0 k a0 a1 (bt273.2 != bt275.2)) else (trivetlaw08_TopicWrites.j0 k a0 a1 true))))) else (some false))
theorem trivetlaw08_TopicWrites.mono_l : ∀ k, (∀ y0 y1 y2, LeO (trivetlaw08_TopicWrites.j0 k y0 y1 y2) (trivetlaw08_TopicWrites.j0 (k + 1) y0 y1 y2)) ∧ (∀ y0 y1 y2, LeO (trivetlaw08_TopicWrites.j1 k y0 y1 y2) (trivetlaw08_TopicWrites.j1 (k + 1) y0 y1 y2))
  | 0 => ⟨fun _ _ _ r h => by simp [trivetlaw08_TopicWrites.j0] at h, fun _ _ _ r h => by simp [trivetlaw08_TopicWrites.j1] at h⟩
  | k + 1 => by
    obtain ⟨ih0, ih1⟩ := trivetlaw08_TopicWrites.mono_l k
    refine ⟨?_, ?_⟩
    · intro y0 y1 y2
      unfold trivetlaw08_TopicWrites.j0
      repeat' first
      | (with_reducible exact ih0 _ _ _)
      | (with_reducible exact ih1 _ _ _)
      | (with_reducible exact topic_Dots.mono _ _)
      | (with_reducible exact topic_Find.mono _ _)
      | (with_reducible exact topic_Slashes.mono _ _)
      | (with_reducible exact trivetlaw08_wakes.mono _)
      | (with_reducible exact trivetref08_Dots.mono _ _)
      | (with_reducible exact trivetref08_Find.mono _ _)
      | (with_reducible exact trivetref08_Slashes.mono _ _)
      | (with_reducible exact LeO.refl _)
      | (with_reducible exact LeO.none _)
      | (with_reducible refine LeO.ite ?_ ?_)
      | (with_reducible refine LeO.bind ?_ (fun _ => ?_))
      | exact ih0 _ _ _
      | exact ih1 _ _ _
      | exact topic_Dots.mono _ _
      | exact topic_Find.mono _ _
      | exact topic_Slashes.mono _ _
      | exact trivetlaw08_wakes.mono _
      | exact trivetref08_Dots.mono _ _
      | exact trivetref08_Find.mono _ _
      | exact trivetref08_Slashes.mono _ _
      | exact LeO.none _
      | refine LeO.ite ?_ ?_
      | refine LeO.bind ?_ (fun _ => ?_)
    · intro y0 y1 y2
      unfold trivetlaw08_TopicWrites.j1
      repeat' first
      | (with_reducible exact ih0 _ _ _)
      | (with_reducible exact ih1 _ _ _)
      | (with_reducible exact topic_Dots.mono _ _)
      | (with_reducible exact topic_Find.mono _ _)
      | (with_reducible exact topic_Slashes.mono _ _)
      | (with_reducible exact trivetlaw08_wakes.mono _)
      | (with_reducible exact trivetref08_Dots.mono _ _)
      | (with_reducible exact trivetref08_Find.mono _ _)
      | (with_reducible exact trivetref08_Slashes.mono _ _)
      | (with_reducible exact LeO.refl _)
      | (with_reducible exact LeO.none _)
      | (with_reducible refine LeO.ite ?_ ?_)
      | (with_reducible refine LeO.bind ?_ (fun _ => ?_))
      | exact ih0 _ _ _
      | exact ih1 _ _ _
      | exact topic_Dots.mono _ _
      | exact topic_Find.mono _ _
      | exact topic_Slashes.mono _ _
      | exact trivetlaw08_wakes.mono _
      | exact trivetref08_Dots.mono _ _
      | exact trivetref08_Find.mono _ _
      | exact trivetref08_Slashes.mono _ _
      | exact LeO.none _
      | refine LeO.ite ?_ ?_
      | refine LeO.bind ?_ (fun _ => ?_)
theorem trivetlaw08_TopicWrites.mono : ∀ a0 a1 k, LeO (trivetlaw08_TopicWrites.f k a0 a1) (trivetlaw08_TopicWrites.f (k + 1) a0 a1) := by
  intro a0 a1 k
  obtain ⟨ih0, ih1⟩ := trivetlaw08_TopicWrites.mono_l k
  unfold trivetlaw08_TopicWrites.f
  repeat' first
      | (with_reducible exact ih0 _ _ _)
      | (with_reducible exact ih1 _ _ _)
      | (with_reducible exact topic_Dots.mono _ _)
      | (with_reducible exact topic_Find.mono _ _)
      | (with_reducible exact topic_Slashes.mono _ _)
      | (with_reducible exact trivetlaw08_wakes.mono _)
      | (with_reducible exact trivetref08_Dots.mono _ _)
      | (with_reducible exact trivetref08_Find.mono _ _)
      | (with_reducible exact trivetref08_Slashes.mono _ _)
      | (with_reducible exact LeO.refl _)
      | (with_reducible exact LeO.none _)
      | (with_reducible refine LeO.ite ?_ ?_)
      | (with_reducible refine LeO.bind ?_ (fun _ => ?_))
      | exact ih0 _ _ _
      | exact ih1 _ _ _
      | exact topic_Dots.mono _ _
      | exact topic_Find.mono _ _
      | exact topic_Slashes.mono _ _
      | exact trivetlaw08_wakes.mono _
      | exact trivetref08_Dots.mono _ _
      | exact trivetref08_Find.mono _ _
      | exact trivetref08_Slashes.mono _ _
      | exact LeO.none _
      | refine LeO.ite ?_ ?_
      | refine LeO.bind ?_ (fun _ => ?_)
set_option maxHeartbeats 8000000 in
set_option maxRecDepth 100000 in
theorem trivetlaw08_TopicWrites.calls (k : Nat) (a0 : ByteArray) (a1 : Bool) (r : Bool) (w : World) (hG : WI w) (h : trivetlaw08_TopicWrites.f k a0 a1 = some r) :
    Calls Tryd.prog 8 #[.string a0, .bool a1] w fun e w' => e = .returned (.bool r) ∧ Below w.heap.size w w' := by
  have HB := Aside0.mk (Below.refl w.heap.size w)
  have HG := Aside0.mk hG
  clear hG
  have H : ((trivetlaw08_wakes.f k).bind fun t272 => (if t272 = true then (if (a0.size : Int) > 4096 then (some true) else ((topic_Slashes.f k a0).bind fun bt273 => ((trivetref08_Slashes.f k a0).bind fun bt275 => (if bt273.1.toList = bt275.1.toList then (trivetlaw08_TopicWrites.j0 k a0 a1 (bt273.2 != bt275.2)) else (trivetlaw08_TopicWrites.j0 k a0 a1 true))))) else (some false))) = some r := h
  clear h
  replace H := Option.bind_eq_some_iff.mp H
  obtain ⟨t272, A30, H⟩ := H
  replace H : (if t272 = true then (if (a0.size : Int) > 4096 then (some true) else ((topic_Slashes.f k a0).bind fun bt273 => ((trivetref08_Slashes.f k a0).bind fun bt275 => (if bt273.1.toList = bt275.1.toList then (trivetlaw08_TopicWrites.j0 k a0 a1 (bt273.2 != bt275.2)) else (trivetlaw08_TopicWrites.j0 k a0 a1 true))))) else (some false)) = some r := H
  have A3 := Aside0.mk A30
  clear A30
  by_cases c4 : t272 = true
  · subst c4
    have H1 : (if (a0.size : Int) > 4096 then (some true) else ((topic_Slashes.f k a0).bind fun bt273 => ((trivetref08_Slashes.f k a0).bind fun bt275 => (if bt273.1.toList = bt275.1.toList then (trivetlaw08_TopicWrites.j0 k a0 a1 (bt273.2 != bt275.2)) else (trivetlaw08_TopicWrites.j0 k a0 a1 true))))) = some r := by rw [if_pos rfl] at H; exact H
    clear H
    have H := H1
    clear H1
    by_cases c5 : (a0.size : Int) > 4096
    · rw [if_pos c5] at H
      have c5b0 : decide (4096 < (a0.size : Int)) = true := decide_eq_true c5
      have c5b1 : decide (4096 < a0.size) = true := decide_eq_true (by omega)
      clear c5
      obtain rfl := Option.some.inj H
      go_enter Tryd.func8, Tryd.ntmps8
      go_wp2_with (first | ((with_reducible refine gate_callee (f := 10) rfl ?_); refine goesL_ (some 12) rfl rfl Tryd.func10 (by kernel_rfl) rfl #[] rfl (by (try simp only [List.map_toArray, List.map_cons, List.map_nil]); first | done | rfl | (simp only [List.length_drop, List.length_take]; rfl)) ?_; (with_reducible refine (trivetlaw08_wakes.calls k  true _ ?side1 A3.out).mono ?_); (case side1 => exact WI.below HG.out (by repeat (first | (with_reducible first | exact HB.out | apply below_alloc | apply pw_below_drewN | apply below_drew1) | exact HB.out))); rintro e w6 ⟨rfl, hb⟩; refine ⟨_, rfl, ?_⟩; have n0_ := Aside0.mk (below_step (by repeat (first | (with_reducible first | exact HB.out | apply below_alloc | apply pw_below_drewN | apply below_drew1) | exact HB.out)) hb); clear HB; have HB := n0_; clear n0_; (try clear hb); (try clear hb2); (try clear hk); (try clear hi)))
      go_ret
      exact ⟨by first | rfl | (simp [errW_none, errW_some] <;> rfl) | (simp [*, errW_none, errW_some] <;> rfl), by repeat (first | (with_reducible first | exact HB.out | apply below_alloc | apply pw_below_drewN | apply below_drew1) | exact HB.out)⟩
    · rw [if_neg c5] at H
      have c5b0 : decide (4096 < (a0.size : Int)) = false := decide_eq_false c5
      have c5b1 : decide (4096 < a0.size) = false := decide_eq_false (by omega)
      clear c5
      replace H := Option.bind_eq_some_iff.mp H
      obtain ⟨⟨t273, t274⟩, A70, H⟩ := H
      replace H : ((trivetref08_Slashes.f k a0).bind fun bt275 => (if t273.toList = bt275.1.toList then (trivetlaw08_TopicWrites.j0 k a0 a1 (t274 != bt275.2)) else (trivetlaw08_TopicWrites.j0 k a0 a1 true))) = some r := H
      have A7 := Aside0.mk A70
      clear A70
      replace H := Option.bind_eq_some_iff.mp H
      obtain ⟨⟨t275, t276⟩, A80, H⟩ := H
      replace H : (if t273.toList = t275.toList then (trivetlaw08_TopicWrites.j0 k a0 a1 (t274 != t276)) else (trivetlaw08_TopicWrites.j0 k a0 a1 true)) = some r := H
      have A8 := Aside0.mk A80
      clear A80
      have HC9 := Aside0.mk H
      clear H
      go_enter Tryd.func8, Tryd.ntmps8
      go_upto_region 7 with (first | ((with_reducible refine gate_callee (f := 10) rfl ?_); refine goesL_ (some 12) rfl rfl Tryd.func10 (by kernel_rfl) rfl #[] rfl (by (try simp only [List.map_toArray, List.map_cons, List.map_nil]); first | done | rfl | (simp only [List.length_drop, List.length_take]; rfl)) ?_; (with_reducible refine (trivetlaw08_wakes.calls k  true _ ?side1 A3.out).mono ?_); (case side1 => exact WI.below HG.out (by repeat (first | (with_reducible first | exact HB.out | apply below_alloc | apply pw_below_drewN | apply below_drew1) | exact HB.out))); rintro e w10 ⟨rfl, hb⟩; refine ⟨_, rfl, ?_⟩; have n0_ := Aside0.mk (below_step (by repeat (first | (with_reducible first | exact HB.out | apply below_alloc | apply pw_below_drewN | apply below_drew1) | exact HB.out)) hb); clear HB; have HB := n0_; clear n0_; (try clear hb); (try clear hb2); (try clear hk); (try clear hi)) | ((with_reducible refine gate_callee (f := 20) rfl ?_); refine goesL_ (some 19) rfl rfl Tryd.func20 (by kernel_rfl) rfl #[.string a0] rfl (by (try simp only [List.map_toArray, List.map_cons, List.map_nil]); first | done | rfl | (simp only [List.length_drop, List.length_take]; rfl)) ?_; (with_reducible refine (topic_Slashes.calls k a0 t273 t274 _ ?side1 A7.out).mono ?_); (case side1 => exact WI.below HG.out (by repeat (first | (with_reducible first | exact HB.out | apply below_alloc | apply pw_below_drewN | apply below_drew1) | exact HB.out))); rintro e w11 ⟨rfl, hb⟩; refine ⟨_, rfl, ?_⟩; have n0_ := Aside0.mk (below_step (by repeat (first | (with_reducible first | exact HB.out | apply below_alloc | apply pw_below_drewN | apply below_drew1) | exact HB.out)) hb); clear HB; have HB := n0_; clear n0_; (try clear hb); (try clear hb2); (try clear hk); (try clear hi)) | ((with_reducible refine gate_callee (f := 21) rfl ?_); refine goesL_ (some 24) rfl rfl Tryd.func21 (by kernel_rfl) rfl #[.string a0] rfl (by (try simp only [List.map_toArray, List.map_cons, List.map_nil]); first | done | rfl | (simp only [List.length_drop, List.length_take]; rfl)) ?_; (with_reducible refine (trivetref08_Slashes.calls k a0 t275 t276 _ A8.out).mono ?_); rintro e w12 ⟨rfl, hb⟩; refine ⟨_, rfl, ?_⟩; have n0_ := Aside0.mk (below_step (by repeat (first | (with_reducible first | exact HB.out | apply below_alloc | apply pw_below_drewN | apply below_drew1) | exact HB.out)) hb); clear HB; have HB := n0_; clear n0_; (try clear hb); (try clear hb2); (try clear hk); (try clear hi)))
      (try simp only [Act.put, List.setIfInBounds_toArray, List.set_cons_zero, List.set_cons_succ])
      go_cut [34] (fun v34 wc => ∃ (kq : Nat) (x34_8 : Bool), v34 = .bool x34_8 ∧ Aside0 (trivetlaw08_TopicWrites.j0 kq a0 a1 x34_8 = some r) ∧ Aside0 (kq ≤ k) ∧ Aside0 (Below w.heap.size w wc))
      case first =>
        have H := HC9.out
        clear HC9
        by_cases c13 : t273.toList = t275.toList
        · rw [if_pos c13] at H
          have c13b0 : (t273.toList == t275.toList) = true := beq_iff_eq.mpr c13
          have c13b1 : (t273.toList != t275.toList) = false := bne_eq_false_iff_eq.mpr c13
          clear c13
          (first | rw [c13b0] | (simp only [i64_w, i32_w]; rw [c13b0]) | skip)
          have H' := Aside0.mk H
          clear H
          go_wp2
          go_meet
          case rel => exact ⟨_, ((t274 != t276)), (by first | rfl | (simp; done) | (simp [*]; done)), H', ⟨by first | omega | exact Nat.le_refl _⟩, ⟨by repeat (first | (with_reducible first | exact HB.out | apply below_alloc | apply pw_below_drewN | apply below_drew1) | exact HB.out)⟩⟩
        · rw [if_neg c13] at H
          have c13b0 : (t273.toList == t275.toList) = false := beq_eq_false_iff_ne.mpr c13
          have c13b1 : (t273.toList != t275.toList) = true := bne_iff_ne.mpr c13
          (first | rw [c13b0] | (simp only [i64_w, i32_w]; rw [c13b0]) | skip)
          have H' := Aside0.mk H
          clear H
          go_wp2
          go_meet
          case rel => exact ⟨_, (true), (by first | rfl | (simp; done) | (simp [*]; done)), H', ⟨by first | omega | exact Nat.le_refl _⟩, ⟨by repeat (first | (with_reducible first | exact HB.out | apply below_alloc | apply pw_below_drewN | apply below_drew1) | exact HB.out)⟩⟩
      case rest =>
        clear HC9
        try clear c1
        try clear c2
        try clear p2
        try clear c4
        try clear c5
        try clear c5b0
        try clear c5b1
        try clear c8
        try clear c10
        try clear c13
        try clear c13b0
        try clear c13b1
        obtain ⟨kq, x34_8, rfl, HA, HJ8, HB⟩ := hcut
        cases kq with
        | zero => exact absurd HA.out (by simp [trivetlaw08_TopicWrites.j0])
        | succ kj8 =>
          have H := HA.out
          clear HA
          simp only [trivetlaw08_TopicWrites.j0] at H
          by_cases c14 : x34_8 = true
          · subst c14
            have H1 : (some false) = some r := by rw [if_pos rfl] at H; exact H
            clear H
            have H := H1
            clear H1
            obtain rfl := Option.some.inj H
            go_wp2
            go_ret
            exact ⟨by first | rfl | (simp [errW_none, errW_some] <;> rfl) | (simp [*, errW_none, errW_some] <;> rfl), by repeat (first | (with_reducible first | exact HB.out | apply below_alloc | apply pw_below_drewN | apply below_drew1) | exact HB.out)⟩
          · replace c14 := Bool.eq_false_iff.mpr c14
            subst c14
            have H1 : ((topic_Dots.f kj8 a0).bind fun bt277 => ((trivetref08_Dots.f kj8 a0).bind fun bt279 => (if bt277.1.toList = bt279.1.toList then (trivetlaw08_TopicWrites.j1 kj8 a0 a1 (bt277.2 != bt279.2)) else (trivetlaw08_TopicWrites.j1 kj8 a0 a1 true)))) = some r := by rw [if_neg (show ¬ (false = true) by decide)] at H; exact H
            clear H
            have H := H1
            clear H1
            replace H := Option.bind_eq_some_iff.mp H
            obtain ⟨⟨t277, t278⟩, A150, H⟩ := H
            replace H : ((trivetref08_Dots.f kj8 a0).bind fun bt279 => (if t277.toList = bt279.1.toList then (trivetlaw08_TopicWrites.j1 kj8 a0 a1 (t278 != bt279.2)) else (trivetlaw08_TopicWrites.j1 kj8 a0 a1 true))) = some r := H
            have A15 := Aside0.mk A150
            clear A150
            replace H := Option.bind_eq_some_iff.mp H
            obtain ⟨⟨t279, t280⟩, A160, H⟩ := H
            replace H : (if t277.toList = t279.toList then (trivetlaw08_TopicWrites.j1 kj8 a0 a1 (t278 != t280)) else (trivetlaw08_TopicWrites.j1 kj8 a0 a1 true)) = some r := H
            have A16 := Aside0.mk A160
            clear A160
            have HC17 := Aside0.mk H
            clear H
            go_upto_region 11 with (first | ((with_reducible refine gate_callee (f := 22) rfl ?_); refine goesL_ (some 37) rfl rfl Tryd.func22 (by kernel_rfl) rfl #[.string a0] rfl (by (try simp only [List.map_toArray, List.map_cons, List.map_nil]); first | done | rfl | (simp only [List.length_drop, List.length_take]; rfl)) ?_; (with_reducible refine (topic_Dots.calls kj8 a0 t277 t278 _ ?side1 A15.out).mono ?_); (case side1 => exact WI.below HG.out (by repeat (first | (with_reducible first | exact HB.out | apply below_alloc | apply pw_below_drewN | apply below_drew1) | exact HB.out))); rintro e w18 ⟨rfl, hb⟩; refine ⟨_, rfl, ?_⟩; have n0_ := Aside0.mk (below_step (by repeat (first | (with_reducible first | exact HB.out | apply below_alloc | apply pw_below_drewN | apply below_drew1) | exact HB.out)) hb); clear HB; have HB := n0_; clear n0_; (try clear hb); (try clear hb2); (try clear hk); (try clear hi)) | ((with_reducible refine gate_callee (f := 23) rfl ?_); refine goesL_ (some 42) rfl rfl Tryd.func23 (by kernel_rfl) rfl #[.string a0] rfl (by (try simp only [List.map_toArray, List.map_cons, List.map_nil]); first | done | rfl | (simp only [List.length_drop, List.length_take]; rfl)) ?_; (with_reducible refine (trivetref08_Dots.calls kj8 a0 t279 t280 _ A16.out).mono ?_); rintro e w19 ⟨rfl, hb⟩; refine ⟨_, rfl, ?_⟩; have n0_ := Aside0.mk (below_step (by repeat (first | (with_reducible first | exact HB.out | apply below_alloc | apply pw_below_drewN | apply below_drew1) | exact HB.out)) hb); clear HB; have HB := n0_; clear n0_; (try clear hb); (try clear hb2); (try clear hk); (try clear hi)))
            (try simp only [Act.put, List.setIfInBounds_toArray, List.set_cons_zero, List.set_cons_succ])
            go_cut [52] (fun v52 wc => ∃ (kq : Nat) (x52_16 : Bool), v52 = .bool x52_16 ∧ Aside0 (trivetlaw08_TopicWrites.j1 kq a0 a1 x52_16 = some r) ∧ Aside0 (kq ≤ kj8) ∧ Aside0 (Below w.heap.size w wc))
            case first =>
              have H := HC17.out
              clear HC17
              by_cases c20 : t277.toList = t279.toList
              · rw [if_pos c20] at H
                have c20b0 : (t277.toList == t279.toList) = true := beq_iff_eq.mpr c20
                have c20b1 : (t277.toList != t279.toList) = false := bne_eq_false_iff_eq.mpr c20
                clear c20
                (first | rw [c20b0] | (simp only [i64_w, i32_w]; rw [c20b0]) | skip)
                have H' := Aside0.mk H
                clear H
                go_wp2
                go_meet
                case rel => exact ⟨_, ((t278 != t280)), (by first | rfl | (simp; done) | (simp [*]; done)), H', ⟨by have := HJ8.out; first | omega | exact Nat.le_refl _⟩, ⟨by repeat (first | (with_reducible first | exact HB.out | apply below_alloc | apply pw_below_drewN | apply below_drew1) | exact HB.out)⟩⟩
              · rw [if_neg c20] at H
                have c20b0 : (t277.toList == t279.toList) = false := beq_eq_false_iff_ne.mpr c20
                have c20b1 : (t277.toList != t279.toList) = true := bne_iff_ne.mpr c20
                (first | rw [c20b0] | (simp only [i64_w, i32_w]; rw [c20b0]) | skip)
                have H' := Aside0.mk H
                clear H
                go_wp2
                go_meet
                case rel => exact ⟨_, (true), (by first | rfl | (simp; done) | (simp [*]; done)), H', ⟨by have := HJ8.out; first | omega | exact Nat.le_refl _⟩, ⟨by repeat (first | (with_reducible first | exact HB.out | apply below_alloc | apply pw_below_drewN | apply below_drew1) | exact HB.out)⟩⟩
            case rest =>
              clear HC17
              try clear c1
              try clear c2
              try clear p2
              try clear c4
              try clear c5
              try clear c5b0
              try clear c5b1
              try clear c8
              try clear c10
              try clear c13
              try clear c13b0
              try clear c13b1
              try clear c14
              try clear c20
              try clear c20b0
              try clear c20b1
              try clear p2
              obtain ⟨kq, x52_16, rfl, HA, HJ16, HB⟩ := hcut
              cases kq with
              | zero => exact absurd HA.out (by simp [trivetlaw08_TopicWrites.j1])
              | succ kj16 =>
                have H := HA.out
                clear HA
                simp only [trivetlaw08_TopicWrites.j1] at H
                by_cases c21 : x52_16 = true
                · subst c21
                  have H1 : (some false) = some r := by rw [if_pos rfl] at H; exact H
                  clear H
                  have H := H1
                  clear H1
                  obtain rfl := Option.some.inj H
                  go_wp2
                  go_ret
                  exact ⟨by first | rfl | (simp [errW_none, errW_some] <;> rfl) | (simp [*, errW_none, errW_some] <;> rfl), by repeat (first | (with_reducible first | exact HB.out | apply below_alloc | apply pw_below_drewN | apply below_drew1) | exact HB.out)⟩
                · replace c21 := Bool.eq_false_iff.mpr c21
                  subst c21
                  have H1 : (if a1 = true then ((topic_Find.f kj16 a0).bind fun bt281 => ((trivetref08_Find.f kj16 a0).bind fun bt284 => (if (bt281.1 == bt284.1) = true then (if bt281.2.1.toList = bt284.2.1.toList then (if bt281.2.2 = bt284.2.2 then ((topic_Place.f a1 a0).bind fun t287 => (if 7 + a0.size ≤ 9223372036854775807 then (some (t287.toList == ((⟨#[47, 113, 117, 101, 117, 101, 47]⟩ : ByteArray) ++ a0).toList)) else (none))) else (some false)) else (some false)) else (some false)))) else ((topic_Find.f kj16 a0).bind fun bt288 => ((trivetref08_Find.f kj16 a0).bind fun bt291 => (if (bt288.1 == bt291.1) = true then (if bt288.2.1.toList = bt291.2.1.toList then (if bt288.2.2 = bt291.2.2 then ((topic_Place.f a1 a0).bind fun t294 => (if 7 + a0.size ≤ 9223372036854775807 then (some (t294.toList == ((⟨#[47, 116, 111, 112, 105, 99, 47]⟩ : ByteArray) ++ a0).toList)) else (none))) else (some false)) else (some false)) else (some false))))) = some r := by rw [if_neg (show ¬ (false = true) by decide)] at H; exact H
                  clear H
                  have H := H1
                  clear H1
                  by_cases c22 : a1 = true
                  · subst c22
                    have H1 : ((topic_Find.f kj16 a0).bind fun bt281 => ((trivetref08_Find.f kj16 a0).bind fun bt284 => (if (bt281.1 == bt284.1) = true then (if bt281.2.1.toList = bt284.2.1.toList then (if bt281.2.2 = bt284.2.2 then ((topic_Place.f true a0).bind fun t287 => (if 7 + a0.size ≤ 9223372036854775807 then (some (t287.toList == ((⟨#[47, 113, 117, 101, 117, 101, 47]⟩ : ByteArray) ++ a0).toList)) else (none))) else (some false)) else (some false)) else (some false)))) = some r := by rw [if_pos rfl] at H; exact H
                    clear H
                    have H := H1
                    clear H1
                    replace H := Option.bind_eq_some_iff.mp H
                    obtain ⟨⟨t281, t282, t283⟩, A230, H⟩ := H
                    replace H : ((trivetref08_Find.f kj16 a0).bind fun bt284 => (if (t281 == bt284.1) = true then (if t282.toList = bt284.2.1.toList then (if t283 = bt284.2.2 then ((topic_Place.f true a0).bind fun t287 => (if 7 + a0.size ≤ 9223372036854775807 then (some (t287.toList == ((⟨#[47, 113, 117, 101, 117, 101, 47]⟩ : ByteArray) ++ a0).toList)) else (none))) else (some false)) else (some false)) else (some false))) = some r := H
                    have A23 := Aside0.mk A230
                    clear A230
                    replace H := Option.bind_eq_some_iff.mp H
                    obtain ⟨⟨t284, t285, t286⟩, A240, H⟩ := H
                    replace H : (if (t281 == t284) = true then (if t282.toList = t285.toList then (if t283 = t286 then ((topic_Place.f true a0).bind fun t287 => (if 7 + a0.size ≤ 9223372036854775807 then (some (t287.toList == ((⟨#[47, 113, 117, 101, 117, 101, 47]⟩ : ByteArray) ++ a0).toList)) else (none))) else (some false)) else (some false)) else (some false)) = some r := H
                    have A24 := Aside0.mk A240
                    clear A240
                    by_cases c25 : (t281 == t284) = true
                    · rw [if_pos c25] at H
                      have c25b0 : (t281 == t284) = true := c25
                      (try (have c25b1 : decide (t281 = t284) = true := by simpa using c25))
                      (try (have c25b2 : (t281 == t284) = true := by simpa using c25))
                      clear c25
                      by_cases c26 : t282.toList = t285.toList
                      · rw [if_pos c26] at H
                        have c26b0 : (t282.toList == t285.toList) = true := beq_iff_eq.mpr c26
                        have c26b1 : (t282.toList != t285.toList) = false := bne_eq_false_iff_eq.mpr c26
                        clear c26
                        by_cases c27 : t283 = t286
                        · rw [if_pos c27] at H
                          have c27b0 : (t283 == t286) = true := beq_iff_eq.mpr c27
                          have c27b1 : (t283 != t286) = false := bne_eq_false_iff_eq.mpr c27
                          clear c27
                          replace H := Option.bind_eq_some_iff.mp H
                          obtain ⟨t287, A280, H⟩ := H
                          replace H : (if 7 + a0.size ≤ 9223372036854775807 then (some (t287.toList == ((⟨#[47, 113, 117, 101, 117, 101, 47]⟩ : ByteArray) ++ a0).toList)) else (none)) = some r := H
                          have A28 := Aside0.mk A280
                          clear A280
                          by_cases c29 : 7 + a0.size ≤ 9223372036854775807
                          · rw [if_pos c29] at H
                            have c29b0 := eq_true c29
                            have c29b1 : decide (7 + a0.size ≤ 9223372036854775807) = true := decide_eq_true c29
                            try have c29b2 : (9223372036854775807 < 7 + a0.size) = False := eq_false (Nat.not_lt.2 c29)
                            obtain rfl := Option.some.inj H
                            go_wp2_with (first | ((with_reducible refine gate_callee (f := 24) rfl ?_); refine goesL_ (some 56) rfl rfl Tryd.func24 (by kernel_rfl) rfl #[.string a0] rfl (by (try simp only [List.map_toArray, List.map_cons, List.map_nil]); first | done | rfl | (simp only [List.length_drop, List.length_take]; rfl)) ?_; (with_reducible refine (topic_Find.calls kj16 a0 t281 t282 t283 _ ?side1 A23.out).mono ?_); (case side1 => exact WI.below HG.out (by repeat (first | (with_reducible first | exact HB.out | apply below_alloc | apply pw_below_drewN | apply below_drew1) | exact HB.out))); rintro e w30 ⟨rfl, hb⟩; refine ⟨_, rfl, ?_⟩; have n0_ := Aside0.mk (below_step (by repeat (first | (with_reducible first | exact HB.out | apply below_alloc | apply pw_below_drewN | apply below_drew1) | exact HB.out)) hb); clear HB; have HB := n0_; clear n0_; (try clear hb); (try clear hb2); (try clear hk); (try clear hi)) | ((with_reducible refine gate_callee (f := 25) rfl ?_); refine goesL_ (some 62) rfl rfl Tryd.func25 (by kernel_rfl) rfl #[.string a0] rfl (by (try simp only [List.map_toArray, List.map_cons, List.map_nil]); first | done | rfl | (simp only [List.length_drop, List.length_take]; rfl)) ?_; (with_reducible refine (trivetref08_Find.calls kj16 a0 t284 t285 t286 _ A24.out).mono ?_); rintro e w31 ⟨rfl, hb⟩; refine ⟨_, rfl, ?_⟩; have n0_ := Aside0.mk (below_step (by repeat (first | (with_reducible first | exact HB.out | apply below_alloc | apply pw_below_drewN | apply below_drew1) | exact HB.out)) hb); clear HB; have HB := n0_; clear n0_; (try clear hb); (try clear hb2); (try clear hk); (try clear hi)) | (go_at_call 26; (with_reducible refine (topic_Place.calls true a0 t287 _ A28.out).mono ?_); rintro e w' ⟨rfl, ⟨nd, rfl⟩⟩))
                            go_ret
                            exact ⟨by first | rfl | (simp [errW_none, errW_some] <;> rfl) | (simp [*, errW_none, errW_some] <;> rfl), by repeat (first | (with_reducible first | exact HB.out | apply below_alloc | apply pw_below_drewN | apply below_drew1) | exact HB.out)⟩
                          · rw [if_neg c29] at H
                            exact absurd H (by simp)
                        · rw [if_neg c27] at H
                          have c27b0 : (t283 == t286) = false := beq_eq_false_iff_ne.mpr c27
                          have c27b1 : (t283 != t286) = true := bne_iff_ne.mpr c27
                          obtain rfl := Option.some.inj H
                          go_wp2_with (first | ((with_reducible refine gate_callee (f := 24) rfl ?_); refine goesL_ (some 56) rfl rfl Tryd.func24 (by kernel_rfl) rfl #[.string a0] rfl (by (try simp only [List.map_toArray, List.map_cons, List.map_nil]); first | done | rfl | (simp only [List.length_drop, List.length_take]; rfl)) ?_; (with_reducible refine (topic_Find.calls kj16 a0 t281 t282 t283 _ ?side1 A23.out).mono ?_); (case side1 => exact WI.below HG.out (by repeat (first | (with_reducible first | exact HB.out | apply below_alloc | apply pw_below_drewN | apply below_drew1) | exact HB.out))); rintro e w32 ⟨rfl, hb⟩; refine ⟨_, rfl, ?_⟩; have n0_ := Aside0.mk (below_step (by repeat (first | (with_reducible first | exact HB.out | apply below_alloc | apply pw_below_drewN | apply below_drew1) | exact HB.out)) hb); clear HB; have HB := n0_; clear n0_; (try clear hb); (try clear hb2); (try clear hk); (try clear hi)) | ((with_reducible refine gate_callee (f := 25) rfl ?_); refine goesL_ (some 62) rfl rfl Tryd.func25 (by kernel_rfl) rfl #[.string a0] rfl (by (try simp only [List.map_toArray, List.map_cons, List.map_nil]); first | done | rfl | (simp only [List.length_drop, List.length_take]; rfl)) ?_; (with_reducible refine (trivetref08_Find.calls kj16 a0 t284 t285 t286 _ A24.out).mono ?_); rintro e w33 ⟨rfl, hb⟩; refine ⟨_, rfl, ?_⟩; have n0_ := Aside0.mk (below_step (by repeat (first | (with_reducible first | exact HB.out | apply below_alloc | apply pw_below_drewN | apply below_drew1) | exact HB.out)) hb); clear HB; have HB := n0_; clear n0_; (try clear hb); (try clear hb2); (try clear hk); (try clear hi)))
                          go_ret
                          exact ⟨by first | rfl | (simp [errW_none, errW_some] <;> rfl) | (simp [*, errW_none, errW_some] <;> rfl), by repeat (first | (with_reducible first | exact HB.out | apply below_alloc | apply pw_below_drewN | apply below_drew1) | exact HB.out)⟩
                      · rw [if_neg c26] at H
                        have c26b0 : (t282.toList == t285.toList) = false := beq_eq_false_iff_ne.mpr c26
                        have c26b1 : (t282.toList != t285.toList) = true := bne_iff_ne.mpr c26
                        obtain rfl := Option.some.inj H
                        go_wp2_with (first | ((with_reducible refine gate_callee (f := 24) rfl ?_); refine goesL_ (some 56) rfl rfl Tryd.func24 (by kernel_rfl) rfl #[.string a0] rfl (by (try simp only [List.map_toArray, List.map_cons, List.map_nil]); first | done | rfl | (simp only [List.length_drop, List.length_take]; rfl)) ?_; (with_reducible refine (topic_Find.calls kj16 a0 t281 t282 t283 _ ?side1 A23.out).mono ?_); (case side1 => exact WI.below HG.out (by repeat (first | (with_reducible first | exact HB.out | apply below_alloc | apply pw_below_drewN | apply below_drew1) | exact HB.out))); rintro e w34 ⟨rfl, hb⟩; refine ⟨_, rfl, ?_⟩; have n0_ := Aside0.mk (below_step (by repeat (first | (with_reducible first | exact HB.out | apply below_alloc | apply pw_below_drewN | apply below_drew1) | exact HB.out)) hb); clear HB; have HB := n0_; clear n0_; (try clear hb); (try clear hb2); (try clear hk); (try clear hi)) | ((with_reducible refine gate_callee (f := 25) rfl ?_); refine goesL_ (some 62) rfl rfl Tryd.func25 (by kernel_rfl) rfl #[.string a0] rfl (by (try simp only [List.map_toArray, List.map_cons, List.map_nil]); first | done | rfl | (simp only [List.length_drop, List.length_take]; rfl)) ?_; (with_reducible refine (trivetref08_Find.calls kj16 a0 t284 t285 t286 _ A24.out).mono ?_); rintro e w35 ⟨rfl, hb⟩; refine ⟨_, rfl, ?_⟩; have n0_ := Aside0.mk (below_step (by repeat (first | (with_reducible first | exact HB.out | apply below_alloc | apply pw_below_drewN | apply below_drew1) | exact HB.out)) hb); clear HB; have HB := n0_; clear n0_; (try clear hb); (try clear hb2); (try clear hk); (try clear hi)))
                        go_ret
                        exact ⟨by first | rfl | (simp [errW_none, errW_some] <;> rfl) | (simp [*, errW_none, errW_some] <;> rfl), by repeat (first | (with_reducible first | exact HB.out | apply below_alloc | apply pw_below_drewN | apply below_drew1) | exact HB.out)⟩
                    · rw [if_neg c25] at H
                      have c25b0 : (t281 == t284) = false := by simpa using c25
                      (try (have c25b1 : decide (t281 = t284) = false := by simpa using c25))
                      (try (have c25b2 : (t281 == t284) = false := by simpa using c25))
                      (try (have c25b3 : ¬ (t281 = t284) := by simpa using c25))
                      clear c25
                      obtain rfl := Option.some.inj H
                      go_wp2_with (first | ((with_reducible refine gate_callee (f := 24) rfl ?_); refine goesL_ (some 56) rfl rfl Tryd.func24 (by kernel_rfl) rfl #[.string a0] rfl (by (try simp only [List.map_toArray, List.map_cons, List.map_nil]); first | done | rfl | (simp only [List.length_drop, List.length_take]; rfl)) ?_; (with_reducible refine (topic_Find.calls kj16 a0 t281 t282 t283 _ ?side1 A23.out).mono ?_); (case side1 => exact WI.below HG.out (by repeat (first | (with_reducible first | exact HB.out | apply below_alloc | apply pw_below_drewN | apply below_drew1) | exact HB.out))); rintro e w36 ⟨rfl, hb⟩; refine ⟨_, rfl, ?_⟩; have n0_ := Aside0.mk (below_step (by repeat (first | (with_reducible first | exact HB.out | apply below_alloc | apply pw_below_drewN | apply below_drew1) | exact HB.out)) hb); clear HB; have HB := n0_; clear n0_; (try clear hb); (try clear hb2); (try clear hk); (try clear hi)) | ((with_reducible refine gate_callee (f := 25) rfl ?_); refine goesL_ (some 62) rfl rfl Tryd.func25 (by kernel_rfl) rfl #[.string a0] rfl (by (try simp only [List.map_toArray, List.map_cons, List.map_nil]); first | done | rfl | (simp only [List.length_drop, List.length_take]; rfl)) ?_; (with_reducible refine (trivetref08_Find.calls kj16 a0 t284 t285 t286 _ A24.out).mono ?_); rintro e w37 ⟨rfl, hb⟩; refine ⟨_, rfl, ?_⟩; have n0_ := Aside0.mk (below_step (by repeat (first | (with_reducible first | exact HB.out | apply below_alloc | apply pw_below_drewN | apply below_drew1) | exact HB.out)) hb); clear HB; have HB := n0_; clear n0_; (try clear hb); (try clear hb2); (try clear hk); (try clear hi)))
                      go_ret
                      exact ⟨by first | rfl | (simp [errW_none, errW_some] <;> rfl) | (simp [*, errW_none, errW_some] <;> rfl), by repeat (first | (with_reducible first | exact HB.out | apply below_alloc | apply pw_below_drewN | apply below_drew1) | exact HB.out)⟩
                  · replace c22 := Bool.eq_false_iff.mpr c22
                    subst c22
                    have H1 : ((topic_Find.f kj16 a0).bind fun bt288 => ((trivetref08_Find.f kj16 a0).bind fun bt291 => (if (bt288.1 == bt291.1) = true then (if bt288.2.1.toList = bt291.2.1.toList then (if bt288.2.2 = bt291.2.2 then ((topic_Place.f false a0).bind fun t294 => (if 7 + a0.size ≤ 9223372036854775807 then (some (t294.toList == ((⟨#[47, 116, 111, 112, 105, 99, 47]⟩ : ByteArray) ++ a0).toList)) else (none))) else (some false)) else (some false)) else (some false)))) = some r := by rw [if_neg (show ¬ (false = true) by decide)] at H; exact H
                    clear H
                    have H := H1
                    clear H1
                    replace H := Option.bind_eq_some_iff.mp H
                    obtain ⟨⟨t288, t289, t290⟩, A380, H⟩ := H
                    replace H : ((trivetref08_Find.f kj16 a0).bind fun bt291 => (if (t288 == bt291.1) = true then (if t289.toList = bt291.2.1.toList then (if t290 = bt291.2.2 then ((topic_Place.f false a0).bind fun t294 => (if 7 + a0.size ≤ 9223372036854775807 then (some (t294.toList == ((⟨#[47, 116, 111, 112, 105, 99, 47]⟩ : ByteArray) ++ a0).toList)) else (none))) else (some false)) else (some false)) else (some false))) = some r := H
                    have A38 := Aside0.mk A380
                    clear A380
                    replace H := Option.bind_eq_some_iff.mp H
                    obtain ⟨⟨t291, t292, t293⟩, A390, H⟩ := H
                    replace H : (if (t288 == t291) = true then (if t289.toList = t292.toList then (if t290 = t293 then ((topic_Place.f false a0).bind fun t294 => (if 7 + a0.size ≤ 9223372036854775807 then (some (t294.toList == ((⟨#[47, 116, 111, 112, 105, 99, 47]⟩ : ByteArray) ++ a0).toList)) else (none))) else (some false)) else (some false)) else (some false)) = some r := H
                    have A39 := Aside0.mk A390
                    clear A390
                    by_cases c40 : (t288 == t291) = true
                    · rw [if_pos c40] at H
                      have c40b0 : (t288 == t291) = true := c40
                      (try (have c40b1 : decide (t288 = t291) = true := by simpa using c40))
                      (try (have c40b2 : (t288 == t291) = true := by simpa using c40))
                      clear c40
                      by_cases c41 : t289.toList = t292.toList
                      · rw [if_pos c41] at H
                        have c41b0 : (t289.toList == t292.toList) = true := beq_iff_eq.mpr c41
                        have c41b1 : (t289.toList != t292.toList) = false := bne_eq_false_iff_eq.mpr c41
                        clear c41
                        by_cases c42 : t290 = t293
                        · rw [if_pos c42] at H
                          have c42b0 : (t290 == t293) = true := beq_iff_eq.mpr c42
                          have c42b1 : (t290 != t293) = false := bne_eq_false_iff_eq.mpr c42
                          clear c42
                          replace H := Option.bind_eq_some_iff.mp H
                          obtain ⟨t294, A430, H⟩ := H
                          replace H : (if 7 + a0.size ≤ 9223372036854775807 then (some (t294.toList == ((⟨#[47, 116, 111, 112, 105, 99, 47]⟩ : ByteArray) ++ a0).toList)) else (none)) = some r := H
                          have A43 := Aside0.mk A430
                          clear A430
                          by_cases c44 : 7 + a0.size ≤ 9223372036854775807
                          · rw [if_pos c44] at H
                            have c44b0 := eq_true c44
                            have c44b1 : decide (7 + a0.size ≤ 9223372036854775807) = true := decide_eq_true c44
                            try have c44b2 : (9223372036854775807 < 7 + a0.size) = False := eq_false (Nat.not_lt.2 c44)
                            obtain rfl := Option.some.inj H
                            go_wp2_with (first | ((with_reducible refine gate_callee (f := 24) rfl ?_); refine goesL_ (some 56) rfl rfl Tryd.func24 (by kernel_rfl) rfl #[.string a0] rfl (by (try simp only [List.map_toArray, List.map_cons, List.map_nil]); first | done | rfl | (simp only [List.length_drop, List.length_take]; rfl)) ?_; (with_reducible refine (topic_Find.calls kj16 a0 t288 t289 t290 _ ?side1 A38.out).mono ?_); (case side1 => exact WI.below HG.out (by repeat (first | (with_reducible first | exact HB.out | apply below_alloc | apply pw_below_drewN | apply below_drew1) | exact HB.out))); rintro e w45 ⟨rfl, hb⟩; refine ⟨_, rfl, ?_⟩; have n0_ := Aside0.mk (below_step (by repeat (first | (with_reducible first | exact HB.out | apply below_alloc | apply pw_below_drewN | apply below_drew1) | exact HB.out)) hb); clear HB; have HB := n0_; clear n0_; (try clear hb); (try clear hb2); (try clear hk); (try clear hi)) | ((with_reducible refine gate_callee (f := 25) rfl ?_); refine goesL_ (some 62) rfl rfl Tryd.func25 (by kernel_rfl) rfl #[.string a0] rfl (by (try simp only [List.map_toArray, List.map_cons, List.map_nil]); first | done | rfl | (simp only [List.length_drop, List.length_take]; rfl)) ?_; (with_reducible refine (trivetref08_Find.calls kj16 a0 t291 t292 t293 _ A39.out).mono ?_); rintro e w46 ⟨rfl, hb⟩; refine ⟨_, rfl, ?_⟩; have n0_ := Aside0.mk (below_step (by repeat (first | (with_reducible first | exact HB.out | apply below_alloc | apply pw_below_drewN | apply below_drew1) | exact HB.out)) hb); clear HB; have HB := n0_; clear n0_; (try clear hb); (try clear hb2); (try clear hk); (try clear hi)) | (go_at_call 26; (with_reducible refine (topic_Place.calls false a0 t294 _ A43.out).mono ?_); rintro e w' ⟨rfl, ⟨nd, rfl⟩⟩))
                            go_ret
                            exact ⟨by first | rfl | (simp [errW_none, errW_some] <;> rfl) | (simp [*, errW_none, errW_some] <;> rfl), by repeat (first | (with_reducible first | exact HB.out | apply below_alloc | apply pw_below_drewN | apply below_drew1) | exact HB.out)⟩
                          · rw [if_neg c44] at H
                            exact absurd H (by simp)
                        · rw [if_neg c42] at H
                          have c42b0 : (t290 == t293) = false := beq_eq_false_iff_ne.mpr c42
                          have c42b1 : (t290 != t293) = true := bne_iff_ne.mpr c42
                          obtain rfl := Option.some.inj H
                          go_wp2_with (first | ((with_reducible refine gate_callee (f := 24) rfl ?_); refine goesL_ (some 56) rfl rfl Tryd.func24 (by kernel_rfl) rfl #[.string a0] rfl (by (try simp only [List.map_toArray, List.map_cons, List.map_nil]); first | done | rfl | (simp only [List.length_drop, List.length_take]; rfl)) ?_; (with_reducible refine (topic_Find.calls kj16 a0 t288 t289 t290 _ ?side1 A38.out).mono ?_); (case side1 => exact WI.below HG.out (by repeat (first | (with_reducible first | exact HB.out | apply below_alloc | apply pw_below_drewN | apply below_drew1) | exact HB.out))); rintro e w47 ⟨rfl, hb⟩; refine ⟨_, rfl, ?_⟩; have n0_ := Aside0.mk (below_step (by repeat (first | (with_reducible first | exact HB.out | apply below_alloc | apply pw_below_drewN | apply below_drew1) | exact HB.out)) hb); clear HB; have HB := n0_; clear n0_; (try clear hb); (try clear hb2); (try clear hk); (try clear hi)) | ((with_reducible refine gate_callee (f := 25) rfl ?_); refine goesL_ (some 62) rfl rfl Tryd.func25 (by kernel_rfl) rfl #[.string a0] rfl (by (try simp only [List.map_toArray, List.map_cons, List.map_nil]); first | done | rfl | (simp only [List.length_drop, List.length_take]; rfl)) ?_; (with_reducible refine (trivetref08_Find.calls kj16 a0 t291 t292 t293 _ A39.out).mono ?_); rintro e w48 ⟨rfl, hb⟩; refine ⟨_, rfl, ?_⟩; have n0_ := Aside0.mk (below_step (by repeat (first | (with_reducible first | exact HB.out | apply below_alloc | apply pw_below_drewN | apply below_drew1) | exact HB.out)) hb); clear HB; have HB := n0_; clear n0_; (try clear hb); (try clear hb2); (try clear hk); (try clear hi)))
                          go_ret
                          exact ⟨by first | rfl | (simp [errW_none, errW_some] <;> rfl) | (simp [*, errW_none, errW_some] <;> rfl), by repeat (first | (with_reducible first | exact HB.out | apply below_alloc | apply pw_below_drewN | apply below_drew1) | exact HB.out)⟩
                      · rw [if_neg c41] at H
                        have c41b0 : (t289.toList == t292.toList) = false := beq_eq_false_iff_ne.mpr c41
                        have c41b1 : (t289.toList != t292.toList) = true := bne_iff_ne.mpr c41
                        obtain rfl := Option.some.inj H
                        go_wp2_with (first | ((with_reducible refine gate_callee (f := 24) rfl ?_); refine goesL_ (some 56) rfl rfl Tryd.func24 (by kernel_rfl) rfl #[.string a0] rfl (by (try simp only [List.map_toArray, List.map_cons, List.map_nil]); first | done | rfl | (simp only [List.length_drop, List.length_take]; rfl)) ?_; (with_reducible refine (topic_Find.calls kj16 a0 t288 t289 t290 _ ?side1 A38.out).mono ?_); (case side1 => exact WI.below HG.out (by repeat (first | (with_reducible first | exact HB.out | apply below_alloc | apply pw_below_drewN | apply below_drew1) | exact HB.out))); rintro e w49 ⟨rfl, hb⟩; refine ⟨_, rfl, ?_⟩; have n0_ := Aside0.mk (below_step (by repeat (first | (with_reducible first | exact HB.out | apply below_alloc | apply pw_below_drewN | apply below_drew1) | exact HB.out)) hb); clear HB; have HB := n0_; clear n0_; (try clear hb); (try clear hb2); (try clear hk); (try clear hi)) | ((with_reducible refine gate_callee (f := 25) rfl ?_); refine goesL_ (some 62) rfl rfl Tryd.func25 (by kernel_rfl) rfl #[.string a0] rfl (by (try simp only [List.map_toArray, List.map_cons, List.map_nil]); first | done | rfl | (simp only [List.length_drop, List.length_take]; rfl)) ?_; (with_reducible refine (trivetref08_Find.calls kj16 a0 t291 t292 t293 _ A39.out).mono ?_); rintro e w50 ⟨rfl, hb⟩; refine ⟨_, rfl, ?_⟩; have n0_ := Aside0.mk (below_step (by repeat (first | (with_reducible first | exact HB.out | apply below_alloc | apply pw_below_drewN | apply below_drew1) | exact HB.out)) hb); clear HB; have HB := n0_; clear n0_; (try clear hb); (try clear hb2); (try clear hk); (try clear hi)))
                        go_ret
                        exact ⟨by first | rfl | (simp [errW_none, errW_some] <;> rfl) | (simp [*, errW_none, errW_some] <;> rfl), by repeat (first | (with_reducible first | exact HB.out | apply below_alloc | apply pw_below_drewN | apply below_drew1) | exact HB.out)⟩
                    · rw [if_neg c40] at H
                      have c40b0 : (t288 == t291) = false := by simpa using c40
                      (try (have c40b1 : decide (t288 = t291) = false := by simpa using c40))
                      (try (have c40b2 : (t288 == t291) = false := by simpa using c40))
                      (try (have c40b3 : ¬ (t288 = t291) := by simpa using c40))
                      clear c40
                      obtain rfl := Option.some.inj H
                      go_wp2_with (first | ((with_reducible refine gate_callee (f := 24) rfl ?_); refine goesL_ (some 56) rfl rfl Tryd.func24 (by kernel_rfl) rfl #[.string a0] rfl (by (try simp only [List.map_toArray, List.map_cons, List.map_nil]); first | done | rfl | (simp only [List.length_drop, List.length_take]; rfl)) ?_; (with_reducible refine (topic_Find.calls kj16 a0 t288 t289 t290 _ ?side1 A38.out).mono ?_); (case side1 => exact WI.below HG.out (by repeat (first | (with_reducible first | exact HB.out | apply below_alloc | apply pw_below_drewN | apply below_drew1) | exact HB.out))); rintro e w51 ⟨rfl, hb⟩; refine ⟨_, rfl, ?_⟩; have n0_ := Aside0.mk (below_step (by repeat (first | (with_reducible first | exact HB.out | apply below_alloc | apply pw_below_drewN | apply below_drew1) | exact HB.out)) hb); clear HB; have HB := n0_; clear n0_; (try clear hb); (try clear hb2); (try clear hk); (try clear hi)) | ((with_reducible refine gate_callee (f := 25) rfl ?_); refine goesL_ (some 62) rfl rfl Tryd.func25 (by kernel_rfl) rfl #[.string a0] rfl (by (try simp only [List.map_toArray, List.map_cons, List.map_nil]); first | done | rfl | (simp only [List.length_drop, List.length_take]; rfl)) ?_; (with_reducible refine (trivetref08_Find.calls kj16 a0 t291 t292 t293 _ A39.out).mono ?_); rintro e w52 ⟨rfl, hb⟩; refine ⟨_, rfl, ?_⟩; have n0_ := Aside0.mk (below_step (by repeat (first | (with_reducible first | exact HB.out | apply below_alloc | apply pw_below_drewN | apply below_drew1) | exact HB.out)) hb); clear HB; have HB := n0_; clear n0_; (try clear hb); (try clear hb2); (try clear hk); (try clear hi)))
                      go_ret
                      exact ⟨by first | rfl | (simp [errW_none, errW_some] <;> rfl) | (simp [*, errW_none, errW_some] <;> rfl), by repeat (first | (with_reducible first | exact HB.out | apply below_alloc | apply pw_below_drewN | apply below_drew1) | exact HB.out)⟩
  · replace c4 := Bool.eq_false_iff.mpr c4
    subst c4
    have H1 : (some false) = some r := by rw [if_neg (show ¬ (false = true) by decide)] at H; exact H
    clear H
    have H := H1
    clear H1
    obtain rfl := Option.some.inj H
    go_enter Tryd.func8, Tryd.ntmps8
    go_wp2_with (first | ((with_reducible refine gate_callee (f := 10) rfl ?_); refine goesL_ (some 12) rfl rfl Tryd.func10 (by kernel_rfl) rfl #[] rfl (by (try simp only [List.map_toArray, List.map_cons, List.map_nil]); first | done | rfl | (simp only [List.length_drop, List.length_take]; rfl)) ?_; (with_reducible refine (trivetlaw08_wakes.calls k  false _ ?side1 A3.out).mono ?_); (case side1 => exact WI.below HG.out (by repeat (first | (with_reducible first | exact HB.out | apply below_alloc | apply pw_below_drewN | apply below_drew1) | exact HB.out))); rintro e w53 ⟨rfl, hb⟩; refine ⟨_, rfl, ?_⟩; have n0_ := Aside0.mk (below_step (by repeat (first | (with_reducible first | exact HB.out | apply below_alloc | apply pw_below_drewN | apply below_drew1) | exact HB.out)) hb); clear HB; have HB := n0_; clear n0_; (try clear hb); (try clear hb2); (try clear hk); (try clear hi)))
    go_ret
    exact ⟨by first | rfl | (simp [errW_none, errW_some] <;> rfl) | (simp [*, errW_none, errW_some] <;> rfl), by repeat (first | (with_reducible first | exact HB.out | apply below_alloc | apply pw_below_drewN | apply below_drew1) | exact HB.out)⟩

/-- THE ONE PURE STATEMENT of trivetlaw08_TopicWrites: yours. -/
def trivetlaw08_TopicWrites.Pure : Prop := ∀ (a0 : ByteArray) (a1 : Bool), a0.size ≤ 140737488351232 → ∃ k, trivetlaw08_TopicWrites.f k a0 a1 = some true
theorem trivetlaw08_TopicWrites.walk (P : trivetlaw08_TopicWrites.Pure) (a0 : ByteArray) (a1 : Bool) (w : World) (hG : WI w) (w0 : a0.size ≤ 140737488351232) :
    Calls Tryd.prog 8 #[.string a0, .bool a1] w fun e w' => e = .returned (.bool true) ∧ Below w.heap.size w w' := by
  obtain ⟨k, h⟩ := P a0 a1 w0
  refine (trivetlaw08_TopicWrites.calls k a0 a1 true w hG h).mono ?_
  rintro e w' ⟨rfl, hd⟩
  exact ⟨rfl, hd⟩

/-! ### trivetlaw08_TopicBack: function 9 -/
mutual
def trivetlaw08_TopicBack.j0 : Nat → ByteArray → Option (Bool)
  | 0, _ => none
  | k + 1, x0 => (topic_Dots.f k x0).bind fun bt304 => (if bt304.2 = 0 then ((topic_Slashes.f k bt304.1).bind fun bt306 => (if bt306.2 = 0 then (trivetlaw08_TopicBack.j1 k x0 (bt306.1.toList != x0.toList)) else (trivetlaw08_TopicBack.j1 k x0 true))) else ((topic_Find.f k x0).bind fun bt312 => (if bt312.2.2 = 0 then ((topic_Place.f bt312.1 bt312.2.1).bind fun t315 => (some (t315.toList == x0.toList))) else (some true))))
def trivetlaw08_TopicBack.j1 : Nat → ByteArray → Bool → Option (Bool)
  | 0, _, _ => none
  | k + 1, x0, x76 => if x76 = true then (some false) else ((topic_Find.f k x0).bind fun bt308 => (if bt308.2.2 = 0 then ((topic_Place.f bt308.1 bt308.2.1).bind fun t311 => (some (t311.toList == x0.toList))) else (some true)))
end
def trivetlaw08_TopicBack.f (k : Nat) (a0 : ByteArray) : Option (Bool) := (trivetlaw08_wakes.f k).bind fun t295 => (if t295 = true then (if (a0.size : Int) > 4096 then (some true) else ((topic_Slashes.f k a0).bind fun bt296 => (if bt296.2 = 0 then ((topic_Dots.f k bt296.1).bind fun bt298 => ((topic_Place.f false a0).bind fun t300 => ((topic_Find.f k t300).bind fun bt301 => (if bt298.2 = 0 then (if bt298.1.toList = a0.toList then (if bt301.2.2 = 0 then (if bt301.2.1.toList = a0.toList then (if bt301.1 = true then (some false) else (trivetlaw08_TopicBack.j0 k a0)) else (some false)) else (some false)) else (some false)) else (some false))))) else (trivetlaw08_TopicBack.j0 k a0)))) else (some false))
theorem trivetlaw08_TopicBack.mono_l : ∀ k, (∀ y0, LeO (trivetlaw08_TopicBack.j0 k y0) (trivetlaw08_TopicBack.j0 (k + 1) y0)) ∧ (∀ y0 y1, LeO (trivetlaw08_TopicBack.j1 k y0 y1) (trivetlaw08_TopicBack.j1 (k + 1) y0 y1))
  | 0 => ⟨fun _ r h => by simp [trivetlaw08_TopicBack.j0] at h, fun _ _ r h => by simp [trivetlaw08_TopicBack.j1] at h⟩
  | k + 1 => by
    obtain ⟨ih0, ih1⟩ := trivetlaw08_TopicBack.mono_l k
    refine ⟨?_, ?_⟩
    · intro y0
      unfold trivetlaw08_TopicBack.j0
      repeat' first
      | (with_reducible exact ih0 _)
      | (with_reducible exact ih1 _ _)
      | (with_reducible exact topic_Dots.mono _ _)
      | (with_reducible exact topic_Find.mono _ _)
      | (with_reducible exact topic_Slashes.mono _ _)
      | (with_reducible exact trivetlaw08_wakes.mono _)
      | (with_reducible exact LeO.refl _)
      | (with_reducible exact LeO.none _)
      | (with_reducible refine LeO.ite ?_ ?_)
      | (with_reducible refine LeO.bind ?_ (fun _ => ?_))
      | exact ih0 _
      | exact ih1 _ _
      | exact topic_Dots.mono _ _
      | exact topic_Find.mono _ _
      | exact topic_Slashes.mono _ _
      | exact trivetlaw08_wakes.mono _
      | exact LeO.none _
      | refine LeO.ite ?_ ?_
      | refine LeO.bind ?_ (fun _ => ?_)
    · intro y0 y1
      unfold trivetlaw08_TopicBack.j1
      repeat' first
      | (with_reducible exact ih0 _)
      | (with_reducible exact ih1 _ _)
      | (with_reducible exact topic_Dots.mono _ _)
      | (with_reducible exact topic_Find.mono _ _)
      | (with_reducible exact topic_Slashes.mono _ _)
      | (with_reducible exact trivetlaw08_wakes.mono _)
      | (with_reducible exact LeO.refl _)
      | (with_reducible exact LeO.none _)
      | (with_reducible refine LeO.ite ?_ ?_)
      | (with_reducible refine LeO.bind ?_ (fun _ => ?_))
      | exact ih0 _
      | exact ih1 _ _
      | exact topic_Dots.mono _ _
      | exact topic_Find.mono _ _
      | exact topic_Slashes.mono _ _
      | exact trivetlaw08_wakes.mono _
      | exact LeO.none _
      | refine LeO.ite ?_ ?_
      | refine LeO.bind ?_ (fun _ => ?_)
theorem trivetlaw08_TopicBack.mono : ∀ a0 k, LeO (trivetlaw08_TopicBack.f k a0) (trivetlaw08_TopicBack.f (k + 1) a0) := by
  intro a0 k
  obtain ⟨ih0, ih1⟩ := trivetlaw08_TopicBack.mono_l k
  unfold trivetlaw08_TopicBack.f
  repeat' first
      | (with_reducible exact ih0 _)
      | (with_reducible exact ih1 _ _)
      | (with_reducible exact topic_Dots.mono _ _)
      | (with_reducible exact topic_Find.mono _ _)
      | (with_reducible exact topic_Slashes.mono _ _)
      | (with_reducible exact trivetlaw08_wakes.mono _)
      | (with_reducible exact LeO.refl _)
      | (with_reducible exact LeO.none _)
      | (with_reducible refine LeO.ite ?_ ?_)
      | (with_reducible refine LeO.bind ?_ (fun _ => ?_))
      | exact ih0 _
      | exact ih1 _ _
      | exact topic_Dots.mono _ _
      | exact topic_Find.mono _ _
      | exact topic_Slashes.mono _ _
      | exact trivetlaw08_wakes.mono _
      | exact LeO.none _
      | refine LeO.ite ?_ ?_
      | refine LeO.bind ?_ (fun _ => ?_)
set_option maxHeartbeats 8000000 in
set_option maxRecDepth 100000 in
theorem trivetlaw08_TopicBack.calls (k : Nat) (a0 : ByteArray) (r : Bool) (w : World) (hG : WI w) (h : trivetlaw08_TopicBack.f k a0 = some r) :
    Calls Tryd.prog 9 #[.string a0] w fun e w' => e = .returned (.bool r) ∧ Below w.heap.size w w' := by
  have HB := Aside0.mk (Below.refl w.heap.size w)
  have HG := Aside0.mk hG
  clear hG
  have H : ((trivetlaw08_wakes.f k).bind fun t295 => (if t295 = true then (if (a0.size : Int) > 4096 then (some true) else ((topic_Slashes.f k a0).bind fun bt296 => (if bt296.2 = 0 then ((topic_Dots.f k bt296.1).bind fun bt298 => ((topic_Place.f false a0).bind fun t300 => ((topic_Find.f k t300).bind fun bt301 => (if bt298.2 = 0 then (if bt298.1.toList = a0.toList then (if bt301.2.2 = 0 then (if bt301.2.1.toList = a0.toList then (if bt301.1 = true then (some false) else (trivetlaw08_TopicBack.j0 k a0)) else (some false)) else (some false)) else (some false)) else (some false))))) else (trivetlaw08_TopicBack.j0 k a0)))) else (some false))) = some r := h
  clear h
  replace H := Option.bind_eq_some_iff.mp H
  obtain ⟨t295, A20, H⟩ := H
  replace H : (if t295 = true then (if (a0.size : Int) > 4096 then (some true) else ((topic_Slashes.f k a0).bind fun bt296 => (if bt296.2 = 0 then ((topic_Dots.f k bt296.1).bind fun bt298 => ((topic_Place.f false a0).bind fun t300 => ((topic_Find.f k t300).bind fun bt301 => (if bt298.2 = 0 then (if bt298.1.toList = a0.toList then (if bt301.2.2 = 0 then (if bt301.2.1.toList = a0.toList then (if bt301.1 = true then (some false) else (trivetlaw08_TopicBack.j0 k a0)) else (some false)) else (some false)) else (some false)) else (some false))))) else (trivetlaw08_TopicBack.j0 k a0)))) else (some false)) = some r := H
  have A2 := Aside0.mk A20
  clear A20
  by_cases c3 : t295 = true
  · subst c3
    have H1 : (if (a0.size : Int) > 4096 then (some true) else ((topic_Slashes.f k a0).bind fun bt296 => (if bt296.2 = 0 then ((topic_Dots.f k bt296.1).bind fun bt298 => ((topic_Place.f false a0).bind fun t300 => ((topic_Find.f k t300).bind fun bt301 => (if bt298.2 = 0 then (if bt298.1.toList = a0.toList then (if bt301.2.2 = 0 then (if bt301.2.1.toList = a0.toList then (if bt301.1 = true then (some false) else (trivetlaw08_TopicBack.j0 k a0)) else (some false)) else (some false)) else (some false)) else (some false))))) else (trivetlaw08_TopicBack.j0 k a0)))) = some r := by rw [if_pos rfl] at H; exact H
    clear H
    have H := H1
    clear H1
    by_cases c4 : (a0.size : Int) > 4096
    · rw [if_pos c4] at H
      have c4b0 : decide (4096 < (a0.size : Int)) = true := decide_eq_true c4
      have c4b1 : decide (4096 < a0.size) = true := decide_eq_true (by omega)
      clear c4
      obtain rfl := Option.some.inj H
      go_enter Tryd.func9, Tryd.ntmps9
      go_wp2_with (first | ((with_reducible refine gate_callee (f := 10) rfl ?_); refine goesL_ (some 15) rfl rfl Tryd.func10 (by kernel_rfl) rfl #[] rfl (by (try simp only [List.map_toArray, List.map_cons, List.map_nil]); first | done | rfl | (simp only [List.length_drop, List.length_take]; rfl)) ?_; (with_reducible refine (trivetlaw08_wakes.calls k  true _ ?side1 A2.out).mono ?_); (case side1 => exact WI.below HG.out (by repeat (first | (with_reducible first | exact HB.out | apply below_alloc | apply pw_below_drewN | apply below_drew1) | exact HB.out))); rintro e w5 ⟨rfl, hb⟩; refine ⟨_, rfl, ?_⟩; have n0_ := Aside0.mk (below_step (by repeat (first | (with_reducible first | exact HB.out | apply below_alloc | apply pw_below_drewN | apply below_drew1) | exact HB.out)) hb); clear HB; have HB := n0_; clear n0_; (try clear hb); (try clear hb2); (try clear hk); (try clear hi)))
      go_ret
      exact ⟨by first | rfl | (simp [errW_none, errW_some] <;> rfl) | (simp [*, errW_none, errW_some] <;> rfl), by repeat (first | (with_reducible first | exact HB.out | apply below_alloc | apply pw_below_drewN | apply below_drew1) | exact HB.out)⟩
    · rw [if_neg c4] at H
      have c4b0 : decide (4096 < (a0.size : Int)) = false := decide_eq_false c4
      have c4b1 : decide (4096 < a0.size) = false := decide_eq_false (by omega)
      clear c4
      replace H := Option.bind_eq_some_iff.mp H
      obtain ⟨⟨t296, t297⟩, A60, H⟩ := H
      replace H : (if t297 = 0 then ((topic_Dots.f k t296).bind fun bt298 => ((topic_Place.f false a0).bind fun t300 => ((topic_Find.f k t300).bind fun bt301 => (if bt298.2 = 0 then (if bt298.1.toList = a0.toList then (if bt301.2.2 = 0 then (if bt301.2.1.toList = a0.toList then (if bt301.1 = true then (some false) else (trivetlaw08_TopicBack.j0 k a0)) else (some false)) else (some false)) else (some false)) else (some false))))) else (trivetlaw08_TopicBack.j0 k a0)) = some r := H
      have A6 := Aside0.mk A60
      clear A60
      have HC7 := Aside0.mk H
      clear H
      go_enter Tryd.func9, Tryd.ntmps9
      go_upto_if 26 with (first | ((with_reducible refine gate_callee (f := 10) rfl ?_); refine goesL_ (some 15) rfl rfl Tryd.func10 (by kernel_rfl) rfl #[] rfl (by (try simp only [List.map_toArray, List.map_cons, List.map_nil]); first | done | rfl | (simp only [List.length_drop, List.length_take]; rfl)) ?_; (with_reducible refine (trivetlaw08_wakes.calls k  true _ ?side1 A2.out).mono ?_); (case side1 => exact WI.below HG.out (by repeat (first | (with_reducible first | exact HB.out | apply below_alloc | apply pw_below_drewN | apply below_drew1) | exact HB.out))); rintro e w8 ⟨rfl, hb⟩; refine ⟨_, rfl, ?_⟩; have n0_ := Aside0.mk (below_step (by repeat (first | (with_reducible first | exact HB.out | apply below_alloc | apply pw_below_drewN | apply below_drew1) | exact HB.out)) hb); clear HB; have HB := n0_; clear n0_; (try clear hb); (try clear hb2); (try clear hk); (try clear hi)) | ((with_reducible refine gate_callee (f := 20) rfl ?_); refine goesL_ (some 22) rfl rfl Tryd.func20 (by kernel_rfl) rfl #[.string a0] rfl (by (try simp only [List.map_toArray, List.map_cons, List.map_nil]); first | done | rfl | (simp only [List.length_drop, List.length_take]; rfl)) ?_; (with_reducible refine (topic_Slashes.calls k a0 t296 t297 _ ?side1 A6.out).mono ?_); (case side1 => exact WI.below HG.out (by repeat (first | (with_reducible first | exact HB.out | apply below_alloc | apply pw_below_drewN | apply below_drew1) | exact HB.out))); rintro e w9 ⟨rfl, hb⟩; refine ⟨_, rfl, ?_⟩; have n0_ := Aside0.mk (below_step (by repeat (first | (with_reducible first | exact HB.out | apply below_alloc | apply pw_below_drewN | apply below_drew1) | exact HB.out)) hb); clear HB; have HB := n0_; clear n0_; (try clear hb); (try clear hb2); (try clear hk); (try clear hi)))
      (try simp only [Act.put, List.setIfInBounds_toArray, List.set_cons_zero, List.set_cons_succ])
      go_cut [] (fun wc => ∃ (kq : Nat), Aside0 (trivetlaw08_TopicBack.j0 kq a0 = some r) ∧ Aside0 (kq ≤ k) ∧ Aside0 (Below w.heap.size w wc))
      case first =>
        have H := HC7.out
        clear HC7
        by_cases c10 : t297 = 0
        · rw [if_pos c10] at H
          have c10b0 : (t297 == 0) = true := beq_iff_eq.mpr c10
          have c10b1 : (t297 != 0) = false := bne_eq_false_iff_eq.mpr c10
          clear c10
          (first | rw [c10b0] | (simp only [i64_w, i32_w]; rw [c10b0]) | skip)
          replace H := Option.bind_eq_some_iff.mp H
          obtain ⟨⟨t298, t299⟩, A110, H⟩ := H
          replace H : ((topic_Place.f false a0).bind fun t300 => ((topic_Find.f k t300).bind fun bt301 => (if t299 = 0 then (if t298.toList = a0.toList then (if bt301.2.2 = 0 then (if bt301.2.1.toList = a0.toList then (if bt301.1 = true then (some false) else (trivetlaw08_TopicBack.j0 k a0)) else (some false)) else (some false)) else (some false)) else (some false)))) = some r := H
          have A11 := Aside0.mk A110
          clear A110
          replace H := Option.bind_eq_some_iff.mp H
          obtain ⟨t300, A120, H⟩ := H
          replace H : ((topic_Find.f k t300).bind fun bt301 => (if t299 = 0 then (if t298.toList = a0.toList then (if bt301.2.2 = 0 then (if bt301.2.1.toList = a0.toList then (if bt301.1 = true then (some false) else (trivetlaw08_TopicBack.j0 k a0)) else (some false)) else (some false)) else (some false)) else (some false))) = some r := H
          have A12 := Aside0.mk A120
          clear A120
          replace H := Option.bind_eq_some_iff.mp H
          obtain ⟨⟨t301, t302, t303⟩, A130, H⟩ := H
          replace H : (if t299 = 0 then (if t298.toList = a0.toList then (if t303 = 0 then (if t302.toList = a0.toList then (if t301 = true then (some false) else (trivetlaw08_TopicBack.j0 k a0)) else (some false)) else (some false)) else (some false)) else (some false)) = some r := H
          have A13 := Aside0.mk A130
          clear A130
          by_cases c14 : t299 = 0
          · rw [if_pos c14] at H
            have c14b0 : (t299 == 0) = true := beq_iff_eq.mpr c14
            have c14b1 : (t299 != 0) = false := bne_eq_false_iff_eq.mpr c14
            clear c14
            by_cases c15 : t298.toList = a0.toList
            · rw [if_pos c15] at H
              have c15b0 : (t298.toList == a0.toList) = true := beq_iff_eq.mpr c15
              have c15b1 : (t298.toList != a0.toList) = false := bne_eq_false_iff_eq.mpr c15
              clear c15
              by_cases c16 : t303 = 0
              · rw [if_pos c16] at H
                have c16b0 : (t303 == 0) = true := beq_iff_eq.mpr c16
                have c16b1 : (t303 != 0) = false := bne_eq_false_iff_eq.mpr c16
                clear c16
                by_cases c17 : t302.toList = a0.toList
                · rw [if_pos c17] at H
                  have c17b0 : (t302.toList == a0.toList) = true := beq_iff_eq.mpr c17
                  have c17b1 : (t302.toList != a0.toList) = false := bne_eq_false_iff_eq.mpr c17
                  clear c17
                  by_cases c18 : t301 = true
                  · subst c18
                    have H1 : (some false) = some r := by rw [if_pos rfl] at H; exact H
                    clear H
                    have H := H1
                    clear H1
                    obtain rfl := Option.some.inj H
                    go_wp2_with (first | ((with_reducible refine gate_callee (f := 22) rfl ?_); refine goesL_ (some 29) rfl rfl Tryd.func22 (by kernel_rfl) rfl #[.string t296] rfl (by (try simp only [List.map_toArray, List.map_cons, List.map_nil]); first | done | rfl | (simp only [List.length_drop, List.length_take]; rfl)) ?_; (with_reducible refine (topic_Dots.calls k t296 t298 t299 _ ?side1 A11.out).mono ?_); (case side1 => exact WI.below HG.out (by repeat (first | (with_reducible first | exact HB.out | apply below_alloc | apply pw_below_drewN | apply below_drew1) | exact HB.out))); rintro e w19 ⟨rfl, hb⟩; refine ⟨_, rfl, ?_⟩; have n0_ := Aside0.mk (below_step (by repeat (first | (with_reducible first | exact HB.out | apply below_alloc | apply pw_below_drewN | apply below_drew1) | exact HB.out)) hb); clear HB; have HB := n0_; clear n0_; (try clear hb); (try clear hb2); (try clear hk); (try clear hi)) | ((with_reducible refine gate_callee (f := 26) rfl ?_); refine goesL_ (some 34) rfl rfl Tryd.func26 (by kernel_rfl) rfl #[.bool false, .string a0] rfl (by (try simp only [List.map_toArray, List.map_cons, List.map_nil]); first | done | rfl | (simp only [List.length_drop, List.length_take]; rfl)) ?_; (with_reducible refine (topic_Place.calls false a0 t300 _ A12.out).mono ?_); rintro e w' ⟨rfl, ⟨nd, rfl⟩⟩; refine ⟨_, rfl, ?_⟩) | ((with_reducible refine gate_callee (f := 24) rfl ?_); refine goesL_ (some 35) rfl rfl Tryd.func24 (by kernel_rfl) rfl #[.string t300] rfl (by (try simp only [List.map_toArray, List.map_cons, List.map_nil]); first | done | rfl | (simp only [List.length_drop, List.length_take]; rfl)) ?_; (with_reducible refine (topic_Find.calls k t300 true t302 t303 _ ?side1 A13.out).mono ?_); (case side1 => exact WI.below HG.out (by repeat (first | (with_reducible first | exact HB.out | apply below_alloc | apply pw_below_drewN | apply below_drew1) | exact HB.out))); rintro e w20 ⟨rfl, hb⟩; refine ⟨_, rfl, ?_⟩; have n0_ := Aside0.mk (below_step (by repeat (first | (with_reducible first | exact HB.out | apply below_alloc | apply pw_below_drewN | apply below_drew1) | exact HB.out)) hb); clear HB; have HB := n0_; clear n0_; (try clear hb); (try clear hb2); (try clear hk); (try clear hi)))
                    go_ret
                    exact ⟨by first | rfl | (simp [errW_none, errW_some] <;> rfl) | (simp [*, errW_none, errW_some] <;> rfl), by repeat (first | (with_reducible first | exact HB.out | apply below_alloc | apply pw_below_drewN | apply below_drew1) | exact HB.out)⟩
                  · replace c18 := Bool.eq_false_iff.mpr c18
                    subst c18
                    have H1 : (trivetlaw08_TopicBack.j0 k a0) = some r := by rw [if_neg (show ¬ (false = true) by decide)] at H; exact H
                    clear H
                    have H := H1
                    clear H1
                    have H' := Aside0.mk H
                    clear H
                    go_wp2_with (first | ((with_reducible refine gate_callee (f := 22) rfl ?_); refine goesL_ (some 29) rfl rfl Tryd.func22 (by kernel_rfl) rfl #[.string t296] rfl (by (try simp only [List.map_toArray, List.map_cons, List.map_nil]); first | done | rfl | (simp only [List.length_drop, List.length_take]; rfl)) ?_; (with_reducible refine (topic_Dots.calls k t296 t298 t299 _ ?side1 A11.out).mono ?_); (case side1 => exact WI.below HG.out (by repeat (first | (with_reducible first | exact HB.out | apply below_alloc | apply pw_below_drewN | apply below_drew1) | exact HB.out))); rintro e w21 ⟨rfl, hb⟩; refine ⟨_, rfl, ?_⟩; have n0_ := Aside0.mk (below_step (by repeat (first | (with_reducible first | exact HB.out | apply below_alloc | apply pw_below_drewN | apply below_drew1) | exact HB.out)) hb); clear HB; have HB := n0_; clear n0_; (try clear hb); (try clear hb2); (try clear hk); (try clear hi)) | ((with_reducible refine gate_callee (f := 26) rfl ?_); refine goesL_ (some 34) rfl rfl Tryd.func26 (by kernel_rfl) rfl #[.bool false, .string a0] rfl (by (try simp only [List.map_toArray, List.map_cons, List.map_nil]); first | done | rfl | (simp only [List.length_drop, List.length_take]; rfl)) ?_; (with_reducible refine (topic_Place.calls false a0 t300 _ A12.out).mono ?_); rintro e w' ⟨rfl, ⟨nd, rfl⟩⟩; refine ⟨_, rfl, ?_⟩) | ((with_reducible refine gate_callee (f := 24) rfl ?_); refine goesL_ (some 35) rfl rfl Tryd.func24 (by kernel_rfl) rfl #[.string t300] rfl (by (try simp only [List.map_toArray, List.map_cons, List.map_nil]); first | done | rfl | (simp only [List.length_drop, List.length_take]; rfl)) ?_; (with_reducible refine (topic_Find.calls k t300 false t302 t303 _ ?side1 A13.out).mono ?_); (case side1 => exact WI.below HG.out (by repeat (first | (with_reducible first | exact HB.out | apply below_alloc | apply pw_below_drewN | apply below_drew1) | exact HB.out))); rintro e w22 ⟨rfl, hb⟩; refine ⟨_, rfl, ?_⟩; have n0_ := Aside0.mk (below_step (by repeat (first | (with_reducible first | exact HB.out | apply below_alloc | apply pw_below_drewN | apply below_drew1) | exact HB.out)) hb); clear HB; have HB := n0_; clear n0_; (try clear hb); (try clear hb2); (try clear hk); (try clear hi)))
                    go_meet
                    case rel => exact ⟨_, H', ⟨by first | omega | exact Nat.le_refl _⟩, ⟨by repeat (first | (with_reducible first | exact HB.out | apply below_alloc | apply pw_below_drewN | apply below_drew1) | exact HB.out)⟩⟩
                · rw [if_neg c17] at H
                  have c17b0 : (t302.toList == a0.toList) = false := beq_eq_false_iff_ne.mpr c17
                  have c17b1 : (t302.toList != a0.toList) = true := bne_iff_ne.mpr c17
                  obtain rfl := Option.some.inj H
                  go_wp2_with (first | ((with_reducible refine gate_callee (f := 22) rfl ?_); refine goesL_ (some 29) rfl rfl Tryd.func22 (by kernel_rfl) rfl #[.string t296] rfl (by (try simp only [List.map_toArray, List.map_cons, List.map_nil]); first | done | rfl | (simp only [List.length_drop, List.length_take]; rfl)) ?_; (with_reducible refine (topic_Dots.calls k t296 t298 t299 _ ?side1 A11.out).mono ?_); (case side1 => exact WI.below HG.out (by repeat (first | (with_reducible first | exact HB.out | apply below_alloc | apply pw_below_drewN | apply below_drew1) | exact HB.out))); rintro e w23 ⟨rfl, hb⟩; refine ⟨_, rfl, ?_⟩; have n0_ := Aside0.mk (below_step (by repeat (first | (with_reducible first | exact HB.out | apply below_alloc | apply pw_below_drewN | apply below_drew1) | exact HB.out)) hb); clear HB; have HB := n0_; clear n0_; (try clear hb); (try clear hb2); (try clear hk); (try clear hi)) | ((with_reducible refine gate_callee (f := 26) rfl ?_); refine goesL_ (some 34) rfl rfl Tryd.func26 (by kernel_rfl) rfl #[.bool false, .string a0] rfl (by (try simp only [List.map_toArray, List.map_cons, List.map_nil]); first | done | rfl | (simp only [List.length_drop, List.length_take]; rfl)) ?_; (with_reducible refine (topic_Place.calls false a0 t300 _ A12.out).mono ?_); rintro e w' ⟨rfl, ⟨nd, rfl⟩⟩; refine ⟨_, rfl, ?_⟩) | ((with_reducible refine gate_callee (f := 24) rfl ?_); refine goesL_ (some 35) rfl rfl Tryd.func24 (by kernel_rfl) rfl #[.string t300] rfl (by (try simp only [List.map_toArray, List.map_cons, List.map_nil]); first | done | rfl | (simp only [List.length_drop, List.length_take]; rfl)) ?_; (with_reducible refine (topic_Find.calls k t300 t301 t302 t303 _ ?side1 A13.out).mono ?_); (case side1 => exact WI.below HG.out (by repeat (first | (with_reducible first | exact HB.out | apply below_alloc | apply pw_below_drewN | apply below_drew1) | exact HB.out))); rintro e w24 ⟨rfl, hb⟩; refine ⟨_, rfl, ?_⟩; have n0_ := Aside0.mk (below_step (by repeat (first | (with_reducible first | exact HB.out | apply below_alloc | apply pw_below_drewN | apply below_drew1) | exact HB.out)) hb); clear HB; have HB := n0_; clear n0_; (try clear hb); (try clear hb2); (try clear hk); (try clear hi)))
                  go_ret
                  exact ⟨by first | rfl | (simp [errW_none, errW_some] <;> rfl) | (simp [*, errW_none, errW_some] <;> rfl), by repeat (first | (with_reducible first | exact HB.out | apply below_alloc | apply pw_below_drewN | apply below_drew1) | exact HB.out)⟩
              · rw [if_neg c16] at H
                have c16b0 : (t303 == 0) = false := beq_eq_false_iff_ne.mpr c16
                have c16b1 : (t303 != 0) = true := bne_iff_ne.mpr c16
                obtain rfl := Option.some.inj H
                go_wp2_with (first | ((with_reducible refine gate_callee (f := 22) rfl ?_); refine goesL_ (some 29) rfl rfl Tryd.func22 (by kernel_rfl) rfl #[.string t296] rfl (by (try simp only [List.map_toArray, List.map_cons, List.map_nil]); first | done | rfl | (simp only [List.length_drop, List.length_take]; rfl)) ?_; (with_reducible refine (topic_Dots.calls k t296 t298 t299 _ ?side1 A11.out).mono ?_); (case side1 => exact WI.below HG.out (by repeat (first | (with_reducible first | exact HB.out | apply below_alloc | apply pw_below_drewN | apply below_drew1) | exact HB.out))); rintro e w25 ⟨rfl, hb⟩; refine ⟨_, rfl, ?_⟩; have n0_ := Aside0.mk (below_step (by repeat (first | (with_reducible first | exact HB.out | apply below_alloc | apply pw_below_drewN | apply below_drew1) | exact HB.out)) hb); clear HB; have HB := n0_; clear n0_; (try clear hb); (try clear hb2); (try clear hk); (try clear hi)) | ((with_reducible refine gate_callee (f := 26) rfl ?_); refine goesL_ (some 34) rfl rfl Tryd.func26 (by kernel_rfl) rfl #[.bool false, .string a0] rfl (by (try simp only [List.map_toArray, List.map_cons, List.map_nil]); first | done | rfl | (simp only [List.length_drop, List.length_take]; rfl)) ?_; (with_reducible refine (topic_Place.calls false a0 t300 _ A12.out).mono ?_); rintro e w' ⟨rfl, ⟨nd, rfl⟩⟩; refine ⟨_, rfl, ?_⟩) | ((with_reducible refine gate_callee (f := 24) rfl ?_); refine goesL_ (some 35) rfl rfl Tryd.func24 (by kernel_rfl) rfl #[.string t300] rfl (by (try simp only [List.map_toArray, List.map_cons, List.map_nil]); first | done | rfl | (simp only [List.length_drop, List.length_take]; rfl)) ?_; (with_reducible refine (topic_Find.calls k t300 t301 t302 t303 _ ?side1 A13.out).mono ?_); (case side1 => exact WI.below HG.out (by repeat (first | (with_reducible first | exact HB.out | apply below_alloc | apply pw_below_drewN | apply below_drew1) | exact HB.out))); rintro e w26 ⟨rfl, hb⟩; refine ⟨_, rfl, ?_⟩; have n0_ := Aside0.mk (below_step (by repeat (first | (with_reducible first | exact HB.out | apply below_alloc | apply pw_below_drewN | apply below_drew1) | exact HB.out)) hb); clear HB; have HB := n0_; clear n0_; (try clear hb); (try clear hb2); (try clear hk); (try clear hi)))
                go_ret
                exact ⟨by first | rfl | (simp [errW_none, errW_some] <;> rfl) | (simp [*, errW_none, errW_some] <;> rfl), by repeat (first | (with_reducible first | exact HB.out | apply below_alloc | apply pw_below_drewN | apply below_drew1) | exact HB.out)⟩
            · rw [if_neg c15] at H
              have c15b0 : (t298.toList == a0.toList) = false := beq_eq_false_iff_ne.mpr c15
              have c15b1 : (t298.toList != a0.toList) = true := bne_iff_ne.mpr c15
              obtain rfl := Option.some.inj H
              go_wp2_with (first | ((with_reducible refine gate_callee (f := 22) rfl ?_); refine goesL_ (some 29) rfl rfl Tryd.func22 (by kernel_rfl) rfl #[.string t296] rfl (by (try simp only [List.map_toArray, List.map_cons, List.map_nil]); first | done | rfl | (simp only [List.length_drop, List.length_take]; rfl)) ?_; (with_reducible refine (topic_Dots.calls k t296 t298 t299 _ ?side1 A11.out).mono ?_); (case side1 => exact WI.below HG.out (by repeat (first | (with_reducible first | exact HB.out | apply below_alloc | apply pw_below_drewN | apply below_drew1) | exact HB.out))); rintro e w27 ⟨rfl, hb⟩; refine ⟨_, rfl, ?_⟩; have n0_ := Aside0.mk (below_step (by repeat (first | (with_reducible first | exact HB.out | apply below_alloc | apply pw_below_drewN | apply below_drew1) | exact HB.out)) hb); clear HB; have HB := n0_; clear n0_; (try clear hb); (try clear hb2); (try clear hk); (try clear hi)) | ((with_reducible refine gate_callee (f := 26) rfl ?_); refine goesL_ (some 34) rfl rfl Tryd.func26 (by kernel_rfl) rfl #[.bool false, .string a0] rfl (by (try simp only [List.map_toArray, List.map_cons, List.map_nil]); first | done | rfl | (simp only [List.length_drop, List.length_take]; rfl)) ?_; (with_reducible refine (topic_Place.calls false a0 t300 _ A12.out).mono ?_); rintro e w' ⟨rfl, ⟨nd, rfl⟩⟩; refine ⟨_, rfl, ?_⟩) | ((with_reducible refine gate_callee (f := 24) rfl ?_); refine goesL_ (some 35) rfl rfl Tryd.func24 (by kernel_rfl) rfl #[.string t300] rfl (by (try simp only [List.map_toArray, List.map_cons, List.map_nil]); first | done | rfl | (simp only [List.length_drop, List.length_take]; rfl)) ?_; (with_reducible refine (topic_Find.calls k t300 t301 t302 t303 _ ?side1 A13.out).mono ?_); (case side1 => exact WI.below HG.out (by repeat (first | (with_reducible first | exact HB.out | apply below_alloc | apply pw_below_drewN | apply below_drew1) | exact HB.out))); rintro e w28 ⟨rfl, hb⟩; refine ⟨_, rfl, ?_⟩; have n0_ := Aside0.mk (below_step (by repeat (first | (with_reducible first | exact HB.out | apply below_alloc | apply pw_below_drewN | apply below_drew1) | exact HB.out)) hb); clear HB; have HB := n0_; clear n0_; (try clear hb); (try clear hb2); (try clear hk); (try clear hi)))
              go_ret
              exact ⟨by first | rfl | (simp [errW_none, errW_some] <;> rfl) | (simp [*, errW_none, errW_some] <;> rfl), by repeat (first | (with_reducible first | exact HB.out | apply below_alloc | apply pw_below_drewN | apply below_drew1) | exact HB.out)⟩
          · rw [if_neg c14] at H
            have c14b0 : (t299 == 0) = false := beq_eq_false_iff_ne.mpr c14
            have c14b1 : (t299 != 0) = true := bne_iff_ne.mpr c14
            obtain rfl := Option.some.inj H
            go_wp2_with (first | ((with_reducible refine gate_callee (f := 22) rfl ?_); refine goesL_ (some 29) rfl rfl Tryd.func22 (by kernel_rfl) rfl #[.string t296] rfl (by (try simp only [List.map_toArray, List.map_cons, List.map_nil]); first | done | rfl | (simp only [List.length_drop, List.length_take]; rfl)) ?_; (with_reducible refine (topic_Dots.calls k t296 t298 t299 _ ?side1 A11.out).mono ?_); (case side1 => exact WI.below HG.out (by repeat (first | (with_reducible first | exact HB.out | apply below_alloc | apply pw_below_drewN | apply below_drew1) | exact HB.out))); rintro e w29 ⟨rfl, hb⟩; refine ⟨_, rfl, ?_⟩; have n0_ := Aside0.mk (below_step (by repeat (first | (with_reducible first | exact HB.out | apply below_alloc | apply pw_below_drewN | apply below_drew1) | exact HB.out)) hb); clear HB; have HB := n0_; clear n0_; (try clear hb); (try clear hb2); (try clear hk); (try clear hi)) | ((with_reducible refine gate_callee (f := 26) rfl ?_); refine goesL_ (some 34) rfl rfl Tryd.func26 (by kernel_rfl) rfl #[.bool false, .string a0] rfl (by (try simp only [List.map_toArray, List.map_cons, List.map_nil]); first | done | rfl | (simp only [List.length_drop, List.length_take]; rfl)) ?_; (with_reducible refine (topic_Place.calls false a0 t300 _ A12.out).mono ?_); rintro e w' ⟨rfl, ⟨nd, rfl⟩⟩; refine ⟨_, rfl, ?_⟩) | ((with_reducible refine gate_callee (f := 24) rfl ?_); refine goesL_ (some 35) rfl rfl Tryd.func24 (by kernel_rfl) rfl #[.string t300] rfl (by (try simp only [List.map_toArray, List.map_cons, List.map_nil]); first | done | rfl | (simp only [List.length_drop, List.length_take]; rfl)) ?_; (with_reducible refine (topic_Find.calls k t300 t301 t302 t303 _ ?side1 A13.out).mono ?_); (case side1 => exact WI.below HG.out (by repeat (first | (with_reducible first | exact HB.out | apply below_alloc | apply pw_below_drewN | apply below_drew1) | exact HB.out))); rintro e w30 ⟨rfl, hb⟩; refine ⟨_, rfl, ?_⟩; have n0_ := Aside0.mk (below_step (by repeat (first | (with_reducible first | exact HB.out | apply below_alloc | apply pw_below_drewN | apply below_drew1) | exact HB.out)) hb); clear HB; have HB := n0_; clear n0_; (try clear hb); (try clear hb2); (try clear hk); (try clear hi)))
            go_ret
            exact ⟨by first | rfl | (simp [errW_none, errW_some] <;> rfl) | (simp [*, errW_none, errW_some] <;> rfl), by repeat (first | (with_reducible first | exact HB.out | apply below_alloc | apply pw_below_drewN | apply below_drew1) | exact HB.out)⟩
        · rw [if_neg c10] at H
          have c10b0 : (t297 == 0) = false := beq_eq_false_iff_ne.mpr c10
          have c10b1 : (t297 != 0) = true := bne_iff_ne.mpr c10
          (first | rw [c10b0] | (simp only [i64_w, i32_w]; rw [c10b0]) | skip)
          have H' := Aside0.mk H
          clear H
          go_wp2
          go_meet
          case rel => exact ⟨_, H', ⟨by first | omega | exact Nat.le_refl _⟩, ⟨by repeat (first | (with_reducible first | exact HB.out | apply below_alloc | apply pw_below_drewN | apply below_drew1) | exact HB.out)⟩⟩
      case rest =>
        clear HC7
        try clear c1
        try clear c2
        try clear p2
        try clear c3
        try clear c4
        try clear c4b0
        try clear c4b1
        try clear c9
        try clear c10
        try clear c10b0
        try clear c10b1
        try clear c14
        try clear c14b0
        try clear c14b1
        try clear c15
        try clear c15b0
        try clear c15b1
        try clear c16
        try clear c16b0
        try clear c16b1
        try clear c17
        try clear c17b0
        try clear c17b1
        try clear c18
        try clear c20
        try clear c22
        try clear c24
        try clear c26
        obtain ⟨kq, HA, HJ6, HB⟩ := hcut
        cases kq with
        | zero => exact absurd HA.out (by simp [trivetlaw08_TopicBack.j0])
        | succ kj6 =>
          have H := HA.out
          clear HA
          simp only [trivetlaw08_TopicBack.j0] at H
          replace H := Option.bind_eq_some_iff.mp H
          obtain ⟨⟨t304, t305⟩, A310, H⟩ := H
          replace H : (if t305 = 0 then ((topic_Slashes.f kj6 t304).bind fun bt306 => (if bt306.2 = 0 then (trivetlaw08_TopicBack.j1 kj6 a0 (bt306.1.toList != a0.toList)) else (trivetlaw08_TopicBack.j1 kj6 a0 true))) else ((topic_Find.f kj6 a0).bind fun bt312 => (if bt312.2.2 = 0 then ((topic_Place.f bt312.1 bt312.2.1).bind fun t315 => (some (t315.toList == a0.toList))) else (some true)))) = some r := H
          have A31 := Aside0.mk A310
          clear A310
          by_cases c32 : t305 = 0
          · rw [if_pos c32] at H
            have c32b0 : (t305 == 0) = true := beq_iff_eq.mpr c32
            have c32b1 : (t305 != 0) = false := bne_eq_false_iff_eq.mpr c32
            clear c32
            replace H := Option.bind_eq_some_iff.mp H
            obtain ⟨⟨t306, t307⟩, A330, H⟩ := H
            replace H : (if t307 = 0 then (trivetlaw08_TopicBack.j1 kj6 a0 (t306.toList != a0.toList)) else (trivetlaw08_TopicBack.j1 kj6 a0 true)) = some r := H
            have A33 := Aside0.mk A330
            clear A330
            have HC34 := Aside0.mk H
            clear H
            go_upto_region 14 with (first | ((with_reducible refine gate_callee (f := 22) rfl ?_); refine goesL_ (some 60) rfl rfl Tryd.func22 (by kernel_rfl) rfl #[.string a0] rfl (by (try simp only [List.map_toArray, List.map_cons, List.map_nil]); first | done | rfl | (simp only [List.length_drop, List.length_take]; rfl)) ?_; (with_reducible refine (topic_Dots.calls kj6 a0 t304 t305 _ ?side1 A31.out).mono ?_); (case side1 => exact WI.below HG.out (by repeat (first | (with_reducible first | exact HB.out | apply below_alloc | apply pw_below_drewN | apply below_drew1) | exact HB.out))); rintro e w35 ⟨rfl, hb⟩; refine ⟨_, rfl, ?_⟩; have n0_ := Aside0.mk (below_step (by repeat (first | (with_reducible first | exact HB.out | apply below_alloc | apply pw_below_drewN | apply below_drew1) | exact HB.out)) hb); clear HB; have HB := n0_; clear n0_; (try clear hb); (try clear hb2); (try clear hk); (try clear hi)) | ((with_reducible refine gate_callee (f := 20) rfl ?_); refine goesL_ (some 67) rfl rfl Tryd.func20 (by kernel_rfl) rfl #[.string t304] rfl (by (try simp only [List.map_toArray, List.map_cons, List.map_nil]); first | done | rfl | (simp only [List.length_drop, List.length_take]; rfl)) ?_; (with_reducible refine (topic_Slashes.calls kj6 t304 t306 t307 _ ?side1 A33.out).mono ?_); (case side1 => exact WI.below HG.out (by repeat (first | (with_reducible first | exact HB.out | apply below_alloc | apply pw_below_drewN | apply below_drew1) | exact HB.out))); rintro e w36 ⟨rfl, hb⟩; refine ⟨_, rfl, ?_⟩; have n0_ := Aside0.mk (below_step (by repeat (first | (with_reducible first | exact HB.out | apply below_alloc | apply pw_below_drewN | apply below_drew1) | exact HB.out)) hb); clear HB; have HB := n0_; clear n0_; (try clear hb); (try clear hb2); (try clear hk); (try clear hi)))
            (try simp only [Act.put, List.setIfInBounds_toArray, List.set_cons_zero, List.set_cons_succ])
            go_cut [76] (fun v76 wc => ∃ (kq : Nat) (x76_33 : Bool), v76 = .bool x76_33 ∧ Aside0 (trivetlaw08_TopicBack.j1 kq a0 x76_33 = some r) ∧ Aside0 (kq ≤ kj6) ∧ Aside0 (Below w.heap.size w wc))
            case first =>
              have H := HC34.out
              clear HC34
              by_cases c37 : t307 = 0
              · rw [if_pos c37] at H
                have c37b0 : (t307 == 0) = true := beq_iff_eq.mpr c37
                have c37b1 : (t307 != 0) = false := bne_eq_false_iff_eq.mpr c37
                clear c37
                (first | rw [c37b0] | (simp only [i64_w, i32_w]; rw [c37b0]) | skip)
                have H' := Aside0.mk H
                clear H
                go_wp2
                go_meet
                case rel => exact ⟨_, ((t306.toList != a0.toList)), (by first | rfl | (simp; done) | (simp [*]; done)), H', ⟨by have := HJ6.out; first | omega | exact Nat.le_refl _⟩, ⟨by repeat (first | (with_reducible first | exact HB.out | apply below_alloc | apply pw_below_drewN | apply below_drew1) | exact HB.out)⟩⟩
              · rw [if_neg c37] at H
                have c37b0 : (t307 == 0) = false := beq_eq_false_iff_ne.mpr c37
                have c37b1 : (t307 != 0) = true := bne_iff_ne.mpr c37
                (first | rw [c37b0] | (simp only [i64_w, i32_w]; rw [c37b0]) | skip)
                have H' := Aside0.mk H
                clear H
                go_wp2
                go_meet
                case rel => exact ⟨_, (true), (by first | rfl | (simp; done) | (simp [*]; done)), H', ⟨by have := HJ6.out; first | omega | exact Nat.le_refl _⟩, ⟨by repeat (first | (with_reducible first | exact HB.out | apply below_alloc | apply pw_below_drewN | apply below_drew1) | exact HB.out)⟩⟩
            case rest =>
              clear HC34
              try clear c1
              try clear c2
              try clear p2
              try clear c3
              try clear c4
              try clear c4b0
              try clear c4b1
              try clear c9
              try clear c10
              try clear c10b0
              try clear c10b1
              try clear c14
              try clear c14b0
              try clear c14b1
              try clear c15
              try clear c15b0
              try clear c15b1
              try clear c16
              try clear c16b0
              try clear c16b1
              try clear c17
              try clear c17b0
              try clear c17b1
              try clear c18
              try clear c20
              try clear c22
              try clear c24
              try clear c26
              try clear c32
              try clear c32b0
              try clear c32b1
              try clear c37
              try clear c37b0
              try clear c37b1
              try clear p2
              obtain ⟨kq, x76_33, rfl, HA, HJ33, HB⟩ := hcut
              cases kq with
              | zero => exact absurd HA.out (by simp [trivetlaw08_TopicBack.j1])
              | succ kj33 =>
                have H := HA.out
                clear HA
                simp only [trivetlaw08_TopicBack.j1] at H
                by_cases c38 : x76_33 = true
                · subst c38
                  have H1 : (some false) = some r := by rw [if_pos rfl] at H; exact H
                  clear H
                  have H := H1
                  clear H1
                  obtain rfl := Option.some.inj H
                  go_wp2
                  go_ret
                  exact ⟨by first | rfl | (simp [errW_none, errW_some] <;> rfl) | (simp [*, errW_none, errW_some] <;> rfl), by repeat (first | (with_reducible first | exact HB.out | apply below_alloc | apply pw_below_drewN | apply below_drew1) | exact HB.out)⟩
                · replace c38 := Bool.eq_false_iff.mpr c38
                  subst c38
                  have H1 : ((topic_Find.f kj33 a0).bind fun bt308 => (if bt308.2.2 = 0 then ((topic_Place.f bt308.1 bt308.2.1).bind fun t311 => (some (t311.toList == a0.toList))) else (some true))) = some r := by rw [if_neg (show ¬ (false = true) by decide)] at H; exact H
                  clear H
                  have H := H1
                  clear H1
                  replace H := Option.bind_eq_some_iff.mp H
                  obtain ⟨⟨t308, t309, t310⟩, A390, H⟩ := H
                  replace H : (if t310 = 0 then ((topic_Place.f t308 t309).bind fun t311 => (some (t311.toList == a0.toList))) else (some true)) = some r := H
                  have A39 := Aside0.mk A390
                  clear A390
                  by_cases c40 : t310 = 0
                  · rw [if_pos c40] at H
                    have c40b0 : (t310 == 0) = true := beq_iff_eq.mpr c40
                    have c40b1 : (t310 != 0) = false := bne_eq_false_iff_eq.mpr c40
                    clear c40
                    replace H := Option.bind_eq_some_iff.mp H
                    obtain ⟨t311, A410, H⟩ := H
                    replace H : (some (t311.toList == a0.toList)) = some r := H
                    have A41 := Aside0.mk A410
                    clear A410
                    obtain rfl := Option.some.inj H
                    go_wp2_with (first | ((with_reducible refine gate_callee (f := 24) rfl ?_); refine goesL_ (some 79) rfl rfl Tryd.func24 (by kernel_rfl) rfl #[.string a0] rfl (by (try simp only [List.map_toArray, List.map_cons, List.map_nil]); first | done | rfl | (simp only [List.length_drop, List.length_take]; rfl)) ?_; (with_reducible refine (topic_Find.calls kj33 a0 t308 t309 t310 _ ?side1 A39.out).mono ?_); (case side1 => exact WI.below HG.out (by repeat (first | (with_reducible first | exact HB.out | apply below_alloc | apply pw_below_drewN | apply below_drew1) | exact HB.out))); rintro e w42 ⟨rfl, hb⟩; refine ⟨_, rfl, ?_⟩; have n0_ := Aside0.mk (below_step (by repeat (first | (with_reducible first | exact HB.out | apply below_alloc | apply pw_below_drewN | apply below_drew1) | exact HB.out)) hb); clear HB; have HB := n0_; clear n0_; (try clear hb); (try clear hb2); (try clear hk); (try clear hi)) | (go_at_call 26; (with_reducible refine (topic_Place.calls t308 t309 t311 _ A41.out).mono ?_); rintro e w' ⟨rfl, ⟨nd, rfl⟩⟩))
                    go_ret
                    exact ⟨by first | rfl | (simp [errW_none, errW_some] <;> rfl) | (simp [*, errW_none, errW_some] <;> rfl), by repeat (first | (with_reducible first | exact HB.out | apply below_alloc | apply pw_below_drewN | apply below_drew1) | exact HB.out)⟩
                  · rw [if_neg c40] at H
                    have c40b0 : (t310 == 0) = false := beq_eq_false_iff_ne.mpr c40
                    have c40b1 : (t310 != 0) = true := bne_iff_ne.mpr c40
                    obtain rfl := Option.some.inj H
                    go_wp2_with (first | ((with_reducible refine gate_callee (f := 24) rfl ?_); refine goesL_ (some 79) rfl rfl Tryd.func24 (by kernel_rfl) rfl #[.string a0] rfl (by (try simp only [List.map_toArray, List.map_cons, List.map_nil]); first | done | rfl | (simp only [List.length_drop, List.length_take]; rfl)) ?_; (with_reducible refine (topic_Find.calls kj33 a0 t308 t309 t310 _ ?side1 A39.out).mono ?_); (case side1 => exact WI.below HG.out (by repeat (first | (with_reducible first | exact HB.out | apply below_alloc | apply pw_below_drewN | apply below_drew1) | exact HB.out))); rintro e w43 ⟨rfl, hb⟩; refine ⟨_, rfl, ?_⟩; have n0_ := Aside0.mk (below_step (by repeat (first | (with_reducible first | exact HB.out | apply below_alloc | apply pw_below_drewN | apply below_drew1) | exact HB.out)) hb); clear HB; have HB := n0_; clear n0_; (try clear hb); (try clear hb2); (try clear hk); (try clear hi)))
                    go_ret
                    exact ⟨by first | rfl | (simp [errW_none, errW_some] <;> rfl) | (simp [*, errW_none, errW_some] <;> rfl), by repeat (first | (with_reducible first | exact HB.out | apply below_alloc | apply pw_below_drewN | apply below_drew1) | exact HB.out)⟩
          · rw [if_neg c32] at H
            have c32b0 : (t305 == 0) = false := beq_eq_false_iff_ne.mpr c32
            have c32b1 : (t305 != 0) = true := bne_iff_ne.mpr c32
            replace H := Option.bind_eq_some_iff.mp H
            obtain ⟨⟨t312, t313, t314⟩, A440, H⟩ := H
            replace H : (if t314 = 0 then ((topic_Place.f t312 t313).bind fun t315 => (some (t315.toList == a0.toList))) else (some true)) = some r := H
            have A44 := Aside0.mk A440
            clear A440
            by_cases c45 : t314 = 0
            · rw [if_pos c45] at H
              have c45b0 : (t314 == 0) = true := beq_iff_eq.mpr c45
              have c45b1 : (t314 != 0) = false := bne_eq_false_iff_eq.mpr c45
              clear c45
              replace H := Option.bind_eq_some_iff.mp H
              obtain ⟨t315, A460, H⟩ := H
              replace H : (some (t315.toList == a0.toList)) = some r := H
              have A46 := Aside0.mk A460
              clear A460
              obtain rfl := Option.some.inj H
              go_wp2_with (first | ((with_reducible refine gate_callee (f := 22) rfl ?_); refine goesL_ (some 60) rfl rfl Tryd.func22 (by kernel_rfl) rfl #[.string a0] rfl (by (try simp only [List.map_toArray, List.map_cons, List.map_nil]); first | done | rfl | (simp only [List.length_drop, List.length_take]; rfl)) ?_; (with_reducible refine (topic_Dots.calls kj6 a0 t304 t305 _ ?side1 A31.out).mono ?_); (case side1 => exact WI.below HG.out (by repeat (first | (with_reducible first | exact HB.out | apply below_alloc | apply pw_below_drewN | apply below_drew1) | exact HB.out))); rintro e w47 ⟨rfl, hb⟩; refine ⟨_, rfl, ?_⟩; have n0_ := Aside0.mk (below_step (by repeat (first | (with_reducible first | exact HB.out | apply below_alloc | apply pw_below_drewN | apply below_drew1) | exact HB.out)) hb); clear HB; have HB := n0_; clear n0_; (try clear hb); (try clear hb2); (try clear hk); (try clear hi)) | ((with_reducible refine gate_callee (f := 24) rfl ?_); refine goesL_ (some 79) rfl rfl Tryd.func24 (by kernel_rfl) rfl #[.string a0] rfl (by (try simp only [List.map_toArray, List.map_cons, List.map_nil]); first | done | rfl | (simp only [List.length_drop, List.length_take]; rfl)) ?_; (with_reducible refine (topic_Find.calls kj6 a0 t312 t313 t314 _ ?side1 A44.out).mono ?_); (case side1 => exact WI.below HG.out (by repeat (first | (with_reducible first | exact HB.out | apply below_alloc | apply pw_below_drewN | apply below_drew1) | exact HB.out))); rintro e w48 ⟨rfl, hb⟩; refine ⟨_, rfl, ?_⟩; have n0_ := Aside0.mk (below_step (by repeat (first | (with_reducible first | exact HB.out | apply below_alloc | apply pw_below_drewN | apply below_drew1) | exact HB.out)) hb); clear HB; have HB := n0_; clear n0_; (try clear hb); (try clear hb2); (try clear hk); (try clear hi)) | (go_at_call 26; (with_reducible refine (topic_Place.calls t312 t313 t315 _ A46.out).mono ?_); rintro e w' ⟨rfl, ⟨nd, rfl⟩⟩))
              go_ret
              exact ⟨by first | rfl | (simp [errW_none, errW_some] <;> rfl) | (simp [*, errW_none, errW_some] <;> rfl), by repeat (first | (with_reducible first | exact HB.out | apply below_alloc | apply pw_below_drewN | apply below_drew1) | exact HB.out)⟩
            · rw [if_neg c45] at H
              have c45b0 : (t314 == 0) = false := beq_eq_false_iff_ne.mpr c45
              have c45b1 : (t314 != 0) = true := bne_iff_ne.mpr c45
              obtain rfl := Option.some.inj H
              go_wp2_with (first | ((with_reducible refine gate_callee (f := 22) rfl ?_); refine goesL_ (some 60) rfl rfl Tryd.func22 (by kernel_rfl) rfl #[.string a0] rfl (by (try simp only [List.map_toArray, List.map_cons, List.map_nil]); first | done | rfl | (simp only [List.length_drop, List.length_take]; rfl)) ?_; (with_reducible refine (topic_Dots.calls kj6 a0 t304 t305 _ ?side1 A31.out).mono ?_); (case side1 => exact WI.below HG.out (by repeat (first | (with_reducible first | exact HB.out | apply below_alloc | apply pw_below_drewN | apply below_drew1) | exact HB.out))); rintro e w49 ⟨rfl, hb⟩; refine ⟨_, rfl, ?_⟩; have n0_ := Aside0.mk (below_step (by repeat (first | (with_reducible first | exact HB.out | apply below_alloc | apply pw_below_drewN | apply below_drew1) | exact HB.out)) hb); clear HB; have HB := n0_; clear n0_; (try clear hb); (try clear hb2); (try clear hk); (try clear hi)) | ((with_reducible refine gate_callee (f := 24) rfl ?_); refine goesL_ (some 79) rfl rfl Tryd.func24 (by kernel_rfl) rfl #[.string a0] rfl (by (try simp only [List.map_toArray, List.map_cons, List.map_nil]); first | done | rfl | (simp only [List.length_drop, List.length_take]; rfl)) ?_; (with_reducible refine (topic_Find.calls kj6 a0 t312 t313 t314 _ ?side1 A44.out).mono ?_); (case side1 => exact WI.below HG.out (by repeat (first | (with_reducible first | exact HB.out | apply below_alloc | apply pw_below_drewN | apply below_drew1) | exact HB.out))); rintro e w50 ⟨rfl, hb⟩; refine ⟨_, rfl, ?_⟩; have n0_ := Aside0.mk (below_step (by repeat (first | (with_reducible first | exact HB.out | apply below_alloc | apply pw_below_drewN | apply below_drew1) | exact HB.out)) hb); clear HB; have HB := n0_; clear n0_; (try clear hb); (try clear hb2); (try clear hk); (try clear hi)))
              go_ret
              exact ⟨by first | rfl | (simp [errW_none, errW_some] <;> rfl) | (simp [*, errW_none, errW_some] <;> rfl), by repeat (first | (with_reducible first | exact HB.out | apply below_alloc | apply pw_below_drewN | apply below_drew1) | exact HB.out)⟩
  · replace c3 := Bool.eq_false_iff.mpr c3
    subst c3
    have H1 : (some false) = some r := by rw [if_neg (show ¬ (false = true) by decide)] at H; exact H
    clear H
    have H := H1
    clear H1
    obtain rfl := Option.some.inj H
    go_enter Tryd.func9, Tryd.ntmps9
    go_wp2_with (first | ((with_reducible refine gate_callee (f := 10) rfl ?_); refine goesL_ (some 15) rfl rfl Tryd.func10 (by kernel_rfl) rfl #[] rfl (by (try simp only [List.map_toArray, List.map_cons, List.map_nil]); first | done | rfl | (simp only [List.length_drop, List.length_take]; rfl)) ?_; (with_reducible refine (trivetlaw08_wakes.calls k  false _ ?side1 A2.out).mono ?_); (case side1 => exact WI.below HG.out (by repeat (first | (with_reducible first | exact HB.out | apply below_alloc | apply pw_below_drewN | apply below_drew1) | exact HB.out))); rintro e w51 ⟨rfl, hb⟩; refine ⟨_, rfl, ?_⟩; have n0_ := Aside0.mk (below_step (by repeat (first | (with_reducible first | exact HB.out | apply below_alloc | apply pw_below_drewN | apply below_drew1) | exact HB.out)) hb); clear HB; have HB := n0_; clear n0_; (try clear hb); (try clear hb2); (try clear hk); (try clear hi)))
    go_ret
    exact ⟨by first | rfl | (simp [errW_none, errW_some] <;> rfl) | (simp [*, errW_none, errW_some] <;> rfl), by repeat (first | (with_reducible first | exact HB.out | apply below_alloc | apply pw_below_drewN | apply below_drew1) | exact HB.out)⟩

/-- THE ONE PURE STATEMENT of trivetlaw08_TopicBack: yours. -/
def trivetlaw08_TopicBack.Pure : Prop := ∀ (a0 : ByteArray), a0.size ≤ 140737488351232 → ∃ k, trivetlaw08_TopicBack.f k a0 = some true
theorem trivetlaw08_TopicBack.walk (P : trivetlaw08_TopicBack.Pure) (a0 : ByteArray) (w : World) (hG : WI w) (w0 : a0.size ≤ 140737488351232) :
    Calls Tryd.prog 9 #[.string a0] w fun e w' => e = .returned (.bool true) ∧ Below w.heap.size w w' := by
  obtain ⟨k, h⟩ := P a0 w0
  refine (trivetlaw08_TopicBack.calls k a0 true w hG h).mono ?_
  rintro e w' ⟨rfl, hd⟩
  exact ⟨rfl, hd⟩

end Go.Proofs.YtednegmjjjdinaaDoor.Q
