-- Written by a program of this claim's author (myprint) out of the loaded functions' own print. Not trusted: Lean checks it.
import Derived.Test.YtednegmjjjdinaaDoorQ0
import Derived.Test.YtednegmjjjdinaaDoorQ1
import Derived.Test.YtednegmjjjdinaaDoorQ2
import Derived.Test.YtednegmjjjdinaaDoorQ3
import Derived.Test.YtednegmjjjdinaaDoorQ4
import Derived.Test.YtednegmjjjdinaaDoorQ6
import Derived.Test.YtednegmjjjdinaaDoorQ7
namespace Go.Proofs.YtednegmjjjdinaaDoor.Q
open Go.RowKit Go.Proofs.YtednegmjjjdinaaDoor.Ext Go.Proofs.YtednegmjjjdinaaDoor.QW Go.Proofs.YtednegmjjjdinaaDoorW.PrintWords Go.Proofs.YtednegmjjjdinaaDoorW.PrintLast Go.Proofs.YtednegmjjjdinaaDoorW.PrintMore
attribute [local go_sem] max2_int min2_int max_two min_two max_three min_three max_four min_four   -- for this text's walks alone
set_option linter.unusedVariables false
set_option linter.unusedSimpArgs false

/-! ### trivetref08_Covers: function 19 -/
def trivetref08_Covers.f (k : Nat) (a0 : ByteArray) (a1 : ByteArray) : Option (Bool) := (trivetref08_Pattern.f k a0).bind fun t207 => (if t207 = true then ((trivetref08_Pattern.f k a1).bind fun t208 => (if t208 = true then ((trivetref08_Words.f k a0 46).bind fun t209 => ((trivetref08_Words.f k a1 46).bind fun t212 => ((trivetref08_over.f k t209 t212).bind fun t215 => (some t215)))) else (some false))) else (some false))
theorem trivetref08_Covers.mono : ∀ a0 a1 k, LeO (trivetref08_Covers.f k a0 a1) (trivetref08_Covers.f (k + 1) a0 a1) := by
  intro a0 a1 k
  unfold trivetref08_Covers.f
  repeat' first
      | (with_reducible exact trivetref08_Pattern.mono _ _)
      | (with_reducible exact trivetref08_Words.mono _ _ _)
      | (with_reducible exact trivetref08_over.mono _ _ _)
      | (with_reducible exact LeO.refl _)
      | (with_reducible exact LeO.none _)
      | (with_reducible refine LeO.ite ?_ ?_)
      | (with_reducible refine LeO.bind ?_ (fun _ => ?_))
      | exact trivetref08_Pattern.mono _ _
      | exact trivetref08_Words.mono _ _ _
      | exact trivetref08_over.mono _ _ _
      | exact LeO.none _
      | refine LeO.ite ?_ ?_
      | refine LeO.bind ?_ (fun _ => ?_)
set_option maxHeartbeats 8000000 in
set_option maxRecDepth 100000 in
theorem trivetref08_Covers.calls (k : Nat) (a0 : ByteArray) (a1 : ByteArray) (r : Bool) (w : World) (h : trivetref08_Covers.f k a0 a1 = some r) :
    Calls Tryd.prog 19 #[.string a0, .string a1] w fun e w' => e = .returned (.bool r) ∧ Below w.heap.size w w' := by
  have HB := Aside0.mk (Below.refl w.heap.size w)
  have H : ((trivetref08_Pattern.f k a0).bind fun t207 => (if t207 = true then ((trivetref08_Pattern.f k a1).bind fun t208 => (if t208 = true then ((trivetref08_Words.f k a0 46).bind fun t209 => ((trivetref08_Words.f k a1 46).bind fun t212 => ((trivetref08_over.f k t209 t212).bind fun t215 => (some t215)))) else (some false))) else (some false))) = some r := h
  clear h
  replace H := Option.bind_eq_some_iff.mp H
  obtain ⟨t207, A30, H⟩ := H
  replace H : (if t207 = true then ((trivetref08_Pattern.f k a1).bind fun t208 => (if t208 = true then ((trivetref08_Words.f k a0 46).bind fun t209 => ((trivetref08_Words.f k a1 46).bind fun t212 => ((trivetref08_over.f k t209 t212).bind fun t215 => (some t215)))) else (some false))) else (some false)) = some r := H
  have A3 := Aside0.mk A30
  clear A30
  by_cases c4 : t207 = true
  · subst c4
    have H1 : ((trivetref08_Pattern.f k a1).bind fun t208 => (if t208 = true then ((trivetref08_Words.f k a0 46).bind fun t209 => ((trivetref08_Words.f k a1 46).bind fun t212 => ((trivetref08_over.f k t209 t212).bind fun t215 => (some t215)))) else (some false))) = some r := by rw [if_pos rfl] at H; exact H
    clear H
    have H := H1
    clear H1
    replace H := Option.bind_eq_some_iff.mp H
    obtain ⟨t208, A50, H⟩ := H
    replace H : (if t208 = true then ((trivetref08_Words.f k a0 46).bind fun t209 => ((trivetref08_Words.f k a1 46).bind fun t212 => ((trivetref08_over.f k t209 t212).bind fun t215 => (some t215)))) else (some false)) = some r := H
    have A5 := Aside0.mk A50
    clear A50
    by_cases c6 : t208 = true
    · subst c6
      have H1 : ((trivetref08_Words.f k a0 46).bind fun t209 => ((trivetref08_Words.f k a1 46).bind fun t212 => ((trivetref08_over.f k t209 t212).bind fun t215 => (some t215)))) = some r := by rw [if_pos rfl] at H; exact H
      clear H
      have H := H1
      clear H1
      replace H := Option.bind_eq_some_iff.mp H
      obtain ⟨t209, A70, H⟩ := H
      replace H : ((trivetref08_Words.f k a1 46).bind fun t212 => ((trivetref08_over.f k t209 t212).bind fun t215 => (some t215))) = some r := H
      have A7 := Aside0.mk A70
      clear A70
      replace H := Option.bind_eq_some_iff.mp H
      obtain ⟨t212, A80, H⟩ := H
      replace H : ((trivetref08_over.f k t209 t212).bind fun t215 => (some t215)) = some r := H
      have A8 := Aside0.mk A80
      clear A80
      replace H := Option.bind_eq_some_iff.mp H
      obtain ⟨t215, A90, H⟩ := H
      replace H : (some t215) = some r := H
      have A9 := Aside0.mk A90
      clear A90
      obtain rfl := Option.some.inj H
      go_enter Tryd.func19, Tryd.ntmps19
      go_wp2_with (first | ((with_reducible refine gate_callee (f := 16) rfl ?_); refine goesL_ (some 6) rfl rfl Tryd.func16 (by kernel_rfl) rfl #[.string a0] rfl (by (try simp only [List.map_toArray, List.map_cons, List.map_nil]); first | done | rfl | (simp only [List.length_drop, List.length_take]; rfl)) ?_; (with_reducible refine (trivetref08_Pattern.calls k a0 true _ A3.out).mono ?_); rintro e w10 ⟨rfl, hb⟩; refine ⟨_, rfl, ?_⟩; have n0_ := Aside0.mk (below_step (by repeat (first | (with_reducible first | exact HB.out | apply below_alloc | apply pw_below_drewN | apply below_drew1) | exact HB.out)) hb); clear HB; have HB := n0_; clear n0_; (try clear hb); (try clear hb2); (try clear hk); (try clear hi)) | (go_at_call 16; (with_reducible refine (trivetref08_Pattern.calls k a1 true _ A5.out).mono ?_); rintro e w11 ⟨rfl, hb⟩; have n0_ := Aside0.mk (below_step (by repeat (first | (with_reducible first | exact HB.out | apply below_alloc | apply pw_below_drewN | apply below_drew1) | exact HB.out)) hb); clear HB; have HB := n0_; clear n0_; (try clear hb); (try clear hb2); (try clear hk); (try clear hi)) | (go_at_call 13; (with_reducible refine (trivetref08_Words.calls k a0 46 t209 _ A7.out).mono ?_); rintro e w12 ⟨v210, rfl, ho0, hb⟩; have n0_ := Aside0.mk (Kd.R_lower ho0 (below_size (by repeat (first | (with_reducible first | exact HB.out | apply below_alloc | apply pw_below_drewN | apply below_drew1) | exact HB.out)))); have n1_ := Aside0.mk (below_step (by repeat (first | (with_reducible first | exact HB.out | apply below_alloc | apply pw_below_drewN | apply below_drew1) | exact HB.out)) hb); clear HB; have HO211 := n0_; have HB := n1_; clear n0_ n1_; (try clear hb); (try clear hb2); (try clear hk); (try clear hi); (try clear ho0)) | (go_at_call 13; (with_reducible refine (trivetref08_Words.calls k a1 46 t212 _ A8.out).mono ?_); rintro e w13 ⟨v213, rfl, ho0, hb⟩; have n0_ := Aside0.mk (Kd.R_elder' (by (with_reducible repeat (first | apply Kd.R_alloc | apply Kd.R_drewN | apply Kd.R_drew)); exact HO211.out) (Kd.R_base ho0) hb); have n1_ := Aside0.mk (Kd.R_lower (Kd.R_new' ho0 (Kd.R_lt (by (with_reducible repeat (first | apply Kd.R_alloc | apply Kd.R_drewN | apply Kd.R_drew)); exact HO211.out))) (below_size (by repeat (first | (with_reducible first | exact HB.out | apply below_alloc | apply pw_below_drewN | apply below_drew1) | exact HB.out)))); have n2_ := Aside0.mk (below_step (by repeat (first | (with_reducible first | exact HB.out | apply below_alloc | apply pw_below_drewN | apply below_drew1) | exact HB.out)) hb); clear HO211; clear HB; have HO211 := n0_; have HO214 := n1_; have HB := n2_; clear n0_ n1_ n2_; (try clear hb); (try clear hb2); (try clear hk); (try clear hi); (try clear ho0); obtain ⟨Ao14, co14, eo14⟩ := Kd.R_slice HO211.out; subst eo14; obtain ⟨Ao15, co15, eo15⟩ := Kd.R_slice HO214.out; subst eo15) | (go_at_call 33; (with_reducible refine (trivetref08_over.calls k _ _ t209 _ _ t212 t215 _ ?side1 ?side2 ?side3 ?side4 A9.out).mono ?_); (case side1 => repeat (first | exact (Kd.R_reads' HO211.out).2.2 | (with_reducible refine Kd.C_alloc ?_ _) | (with_reducible refine Kd.C_drewN ?_ _) | (with_reducible refine Kd.C_drew ?_))); (case side2 => exact (Kd.R_reads' HO211.out).2.1); (case side3 => repeat (first | exact (Kd.R_reads' HO214.out).2.2 | (with_reducible refine Kd.C_alloc ?_ _) | (with_reducible refine Kd.C_drewN ?_ _) | (with_reducible refine Kd.C_drew ?_))); (case side4 => exact (Kd.R_reads' HO214.out).2.1); rintro e w16 ⟨rfl, hb⟩; have n0_ := Aside0.mk (Kd.R_below (by (with_reducible repeat (first | apply Kd.R_alloc | apply Kd.R_drewN | apply Kd.R_drew)); exact HO211.out) hb); have n1_ := Aside0.mk (Kd.R_below (by (with_reducible repeat (first | apply Kd.R_alloc | apply Kd.R_drewN | apply Kd.R_drew)); exact HO214.out) hb); have n2_ := Aside0.mk (below_step (by repeat (first | (with_reducible first | exact HB.out | apply below_alloc | apply pw_below_drewN | apply below_drew1) | exact HB.out)) hb); clear HO211; clear HO214; clear HB; have HO211 := n0_; have HO214 := n1_; have HB := n2_; clear n0_ n1_ n2_; (try clear hb); (try clear hb2); (try clear hk); (try clear hi)))
      go_ret
      exact ⟨by first | rfl | (simp [errW_none, errW_some] <;> rfl) | (simp [*, errW_none, errW_some] <;> rfl), by repeat (first | (with_reducible first | exact HB.out | apply below_alloc | apply pw_below_drewN | apply below_drew1) | exact HB.out)⟩
    · replace c6 := Bool.eq_false_iff.mpr c6
      subst c6
      have H1 : (some false) = some r := by rw [if_neg (show ¬ (false = true) by decide)] at H; exact H
      clear H
      have H := H1
      clear H1
      obtain rfl := Option.some.inj H
      go_enter Tryd.func19, Tryd.ntmps19
      go_wp2_with (first | ((with_reducible refine gate_callee (f := 16) rfl ?_); refine goesL_ (some 6) rfl rfl Tryd.func16 (by kernel_rfl) rfl #[.string a0] rfl (by (try simp only [List.map_toArray, List.map_cons, List.map_nil]); first | done | rfl | (simp only [List.length_drop, List.length_take]; rfl)) ?_; (with_reducible refine (trivetref08_Pattern.calls k a0 true _ A3.out).mono ?_); rintro e w17 ⟨rfl, hb⟩; refine ⟨_, rfl, ?_⟩; have n0_ := Aside0.mk (below_step (by repeat (first | (with_reducible first | exact HB.out | apply below_alloc | apply pw_below_drewN | apply below_drew1) | exact HB.out)) hb); clear HB; have HB := n0_; clear n0_; (try clear hb); (try clear hb2); (try clear hk); (try clear hi)) | (go_at_call 16; (with_reducible refine (trivetref08_Pattern.calls k a1 false _ A5.out).mono ?_); rintro e w18 ⟨rfl, hb⟩; have n0_ := Aside0.mk (below_step (by repeat (first | (with_reducible first | exact HB.out | apply below_alloc | apply pw_below_drewN | apply below_drew1) | exact HB.out)) hb); clear HB; have HB := n0_; clear n0_; (try clear hb); (try clear hb2); (try clear hk); (try clear hi)))
      go_ret
      exact ⟨by first | rfl | (simp [errW_none, errW_some] <;> rfl) | (simp [*, errW_none, errW_some] <;> rfl), by repeat (first | (with_reducible first | exact HB.out | apply below_alloc | apply pw_below_drewN | apply below_drew1) | exact HB.out)⟩
  · replace c4 := Bool.eq_false_iff.mpr c4
    subst c4
    have H1 : (some false) = some r := by rw [if_neg (show ¬ (false = true) by decide)] at H; exact H
    clear H
    have H := H1
    clear H1
    obtain rfl := Option.some.inj H
    go_enter Tryd.func19, Tryd.ntmps19
    go_wp2_with (first | ((with_reducible refine gate_callee (f := 16) rfl ?_); refine goesL_ (some 6) rfl rfl Tryd.func16 (by kernel_rfl) rfl #[.string a0] rfl (by (try simp only [List.map_toArray, List.map_cons, List.map_nil]); first | done | rfl | (simp only [List.length_drop, List.length_take]; rfl)) ?_; (with_reducible refine (trivetref08_Pattern.calls k a0 false _ A3.out).mono ?_); rintro e w19 ⟨rfl, hb⟩; refine ⟨_, rfl, ?_⟩; have n0_ := Aside0.mk (below_step (by repeat (first | (with_reducible first | exact HB.out | apply below_alloc | apply pw_below_drewN | apply below_drew1) | exact HB.out)) hb); clear HB; have HB := n0_; clear n0_; (try clear hb); (try clear hb2); (try clear hk); (try clear hi)))
    go_ret
    exact ⟨by first | rfl | (simp [errW_none, errW_some] <;> rfl) | (simp [*, errW_none, errW_some] <;> rfl), by repeat (first | (with_reducible first | exact HB.out | apply below_alloc | apply pw_below_drewN | apply below_drew1) | exact HB.out)⟩

end Go.Proofs.YtednegmjjjdinaaDoor.Q
