/- Texts of this claim's author, joined and pruned by a program of his (pack.py): Xc. -/
import Derived.WalkLawsBesides
import Derived.Test.YtednegmjjjdinaaGreatDoorP0
import Derived.Test.YtednegmjjjdinaaGreatDoorP1
import Derived.Test.YtednegmjjjdinaaGreatDoorP2
import Derived.Test.YtednegmjjjdinaaGreatDoorP3
import Derived.Test.YtednegmjjjdinaaGreatDoorP4
import Derived.Test.YtednegmjjjdinaaGreatDoorP5
import Derived.Test.YtednegmjjjdinaaGreatDoorP7
import Derived.Test.YtednegmjjjdinaaGreatDoorP10
set_option maxRecDepth 100000
set_option maxHeartbeats 4000000
open Go.Proofs.YtednegmjjjdinaaGreatDoorW.PrintWords.Aside0 renaming mk → Amk
namespace Go.Proofs.YtednegmjjjdinaaGreatDoor.Ext
open Go.RowKit Go.Proofs.YtednegmjjjdinaaGreatDoorW.PrintWords Go.Proofs.YtednegmjjjdinaaGreatDoorW.PrintLast Go.Proofs.YtednegmjjjdinaaGreatDoorW.PrintMore
theorem quiet_add_same {P : Program} {f : FuncId} {args : Array Value} {w : World} {a n : Nat} {v : Value}
    (h : Calls P f args (w.drewN (a + n)) fun e w' => e = .returned v ∧ w' = w.drewN (a + n)) :
    Calls P f args (w.drewN (a + n)) fun e w'' => e = .returned v ∧ ∃ m, w'' = w.drewN (a + m) :=
  h.mono fun _ _ ⟨he, hm⟩ => ⟨he, n, hm⟩
theorem validRune_lo (x : Int) (w : World) (h1 : 0 ≤ x) (h2 : x < 55296) : Calls Tryz.prog 240 #[.int .i32 x] w fun e w' => e = .returned (.bool true) ∧ w = w' := by
  have b1 : decide (0 ≤ x) = true := decide_eq_true h1
  have b2 : decide (x < 55296) = true := decide_eq_true h2
  go_enter Tryz.func240, Tryz.ntmps240
  go_wp2
  go_ret
  exact ⟨rfl, rfl⟩
theorem validRune_hi (x : Int) (w : World) (h1 : 57343 < x) (h2 : x ≤ 1114111) : Calls Tryz.prog 240 #[.int .i32 x] w fun e w' => e = .returned (.bool true) ∧ w = w' := by
  have b1 : decide (0 ≤ x) = true := decide_eq_true (by omega)
  have b2 : decide (x < 55296) = false := decide_eq_false (by omega)
  have b3 : decide (57343 < x) = true := decide_eq_true h1
  have b4 : decide (x ≤ 1114111) = true := decide_eq_true h2
  go_enter Tryz.func240, Tryz.ntmps240
  go_wp2
  go_ret
  exact ⟨rfl, rfl⟩
theorem validRune_no (x : Int) (w : World) (h1 : 55296 ≤ x) (h2 : x ≤ 57343) : Calls Tryz.prog 240 #[.int .i32 x] w fun e w' => e = .returned (.bool false) ∧ w = w' := by
  have b1 : decide (0 ≤ x) = true := decide_eq_true (by omega)
  have b2 : decide (x < 55296) = false := decide_eq_false (by omega)
  have b3 : decide (57343 < x) = false := decide_eq_false (by omega)
  go_enter Tryz.func240, Tryz.ntmps240
  go_wp2
  go_ret
  exact ⟨rfl, rfl⟩
theorem indexRune_no (s : ByteArray) (_hs : s.size = 2) (x : Int) (h1 : 55296 ≤ x) (h2 : x ≤ 57343) (w : World) :
    Calls Tryz.prog 171 #[.string s, .int .i32 x] w fun e w' => e = .returned (.int .i64 (-1)) ∧ Below w.heap.size w w' := by
  have b1 : decide (0 ≤ x) = true := decide_eq_true (by omega)
  have b2 : decide (x < 128) = false := decide_eq_false (by omega)
  have b3 : (x == 65533) = false := beq_eq_false_iff_ne.2 (by omega)
  go_enter Tryz.func171, Tryz.ntmps171
  go_wp2_with (go_at_call 240; refine (validRune_no x _ h1 h2).mono ?_; rintro e w' ⟨rfl, rfl⟩)
  go_ret
  exact ⟨rfl, Below.refl _ _⟩
theorem valid_of (x : Int) (h1 : 0 ≤ x) (h2 : x ≤ 1114111) (h3 : x < 55296 ∨ 57343 < x) : Utf8.valid x = true := by
  unfold Utf8.valid
  rcases h3 with h3 | h3
  · simp; omega
  · simp; omega
theorem enc3 (x : Int) (h1 : 2048 ≤ x) (h2 : x ≤ 1114111) (h3 : x < 55296 ∨ 57343 < x) : 3 ≤ (Utf8.encode x).size ∧ (Utf8.encode x).size ≤ 4 := by
  unfold Utf8.encode
  simp only [valid_of x (by omega) h2 h3, if_true]
  rw [if_neg (by omega), if_neg (by omega)]
  split
  · exact ⟨Nat.le_refl 3, show 3 ≤ 4 by decide⟩
  · exact ⟨show 3 ≤ 4 by decide, Nat.le_refl 4⟩
theorem enc2 (x : Int) (h1 : 128 ≤ x) (h2 : x < 2048) : Utf8.encode x = ⟨#[UInt8.ofNat (192 + x.toNat / 64), UInt8.ofNat (128 + x.toNat % 64)]⟩ := by
  unfold Utf8.encode
  simp only [valid_of x (by omega) (by omega) (by omega), if_true]
  rw [if_neg (by omega), if_pos (by omega)]
theorem indexRune_c (s : ByteArray) (hs : s.size = 2) (x : Int) (h1 : 2048 ≤ x) (h2 : x ≤ 1114111) (h3 : x ≠ 65533) (h4 : x < 55296 ∨ 57343 < x) (w : World)
    (hv : ∀ w, Calls Tryz.prog 240 #[.int .i32 x] w fun e w' => e = .returned (.bool true) ∧ w = w') :
    Calls Tryz.prog 171 #[.string s, .int .i32 x] w fun e w' => e = .returned (.int .i64 (-1)) ∧ Below w.heap.size w w' := by
  have b1 : decide (0 ≤ x) = true := decide_eq_true (by omega)
  have b2 : decide (x < 128) = false := decide_eq_false (by omega)
  have b3 : (x == 65533) = false := beq_eq_false_iff_ne.2 h3
  have HV := Amk hv
  clear hv
  go_enter Tryz.func171, Tryz.ntmps171
  go_wp2_with (go_at_call 240; refine (HV.out _).mono ?_; rintro e w' ⟨rfl, rfl⟩)
  obtain ⟨hz1, hz2⟩ := enc3 x h1 h2 h4
  have hs2 : s.size ≤ 2 := by omega
  clear hs h4
  go_step3
  go_wp2_with fail
  refine wp_loop_rounds 1 ?_
  rw [rounds_succ]
  go_wp2_with fail
  rw [Exit.noGoto_ret]
  go_ret
  exact ⟨rfl, Below.refl _ _⟩
theorem indexRune_b (p q : UInt8) (_hp : p.toNat < 128) (hq : q.toNat < 128) (x : Int) (h1 : 128 ≤ x) (h2 : x < 2048) (w : World) :
    Calls Tryz.prog 171 #[.string ⟨#[p, q]⟩, .int .i32 x] w fun e w' => e = .returned (.int .i64 (-1)) ∧ Below w.heap.size w w' := by
  have b1 : decide (0 ≤ x) = true := decide_eq_true (by omega)
  have b2 : decide (x < 128) = false := decide_eq_false (by omega)
  have b3 : (x == 65533) = false := beq_eq_false_iff_ne.2 (by omega)
  have HE := enc2 x h1 h2
  obtain ⟨u, v, hv, hE⟩ : ∃ u v : UInt8, 128 ≤ v.toNat ∧ Utf8.encode x = ⟨#[u, v]⟩ := ⟨_, _, by simp; omega, HE⟩
  clear HE
  have bn : ((((⟨#[p, q]⟩ : ByteArray)[1]'(by show 1 < 2; decide)).toNat : Int) != (((⟨#[u, v]⟩ : ByteArray)[1]'(by show 1 < 2; decide)).toNat : Int)) = true := by
    show ((q.toNat : Int) != (v.toNat : Int)) = true
    rw [bne_iff_ne]; omega
  go_enter Tryz.func171, Tryz.ntmps171
  go_wp2_with (go_at_call 240; refine (validRune_lo x _ (by omega) (by omega)).mono ?_; rintro e w' ⟨rfl, rfl⟩)
  go_step3
  go_wp2_with fail
  refine wp_loop_rounds 1 ?_
  rw [rounds_succ]
  go_wp2_with fail
  go_step3
  go_wp2_with fail
  go_quiet (fail)
  go_wp2_with fail
  go_quiet ((go_at_call 159; exact quiet_add_same (Tryz.strings_IndexByte _ _ _)))
  go_wp2_with fail
  rw [Exit.noGoto_ret]
  go_wp2_with fail
  rw [Exit.noGoto_ret]
  go_ret
  exact ⟨rfl, pw_below_drewN (Below.refl _ _) _⟩
theorem indexRune_d (p q : UInt8) (hp : p.toNat < 128) (hq : q.toNat < 128) (w : World) :
    Calls Tryz.prog 171 #[.string ⟨#[p, q]⟩, .int .i32 65533] w fun e w' => e = .returned (.int .i64 (-1)) ∧ Below w.heap.size w w' := by
  have HN := fun ty => run_next_end (P := Tryz.prog) w ⟨#[p, q]⟩ 2 ty (by show ¬ 2 < 2; decide)
  have H0 := fun ty => run_next_ascii (P := Tryz.prog) w ⟨#[p, q]⟩ 0 ty (by show 0 < 2; decide) hp
  have H1 := fun ty => run_next_ascii (P := Tryz.prog) w ⟨#[p, q]⟩ 1 ty (by show 1 < 2; decide) hq
  have e0 : ((⟨#[p, q]⟩ : ByteArray)[0]'(by show 0 < 2; decide)) = p := rfl
  have e1 : ((⟨#[p, q]⟩ : ByteArray)[1]'(by show 1 < 2; decide)) = q := rfl
  rw [e0] at H0
  rw [e1] at H1
  clear e0 e1
  have np : ((p.toNat : Int) == 65533) = false := beq_eq_false_iff_ne.2 (by omega)
  have nq : ((q.toNat : Int) == 65533) = false := beq_eq_false_iff_ne.2 (by omega)
  go_enter Tryz.func171, Tryz.ntmps171
  go_wp2_with fail
  refine wp_loop_rounds 3 ?_
  rw [rounds_succ]
  go_wp2_with fail
  rw [rounds_succ]
  go_wp2_with fail
  rw [rounds_succ]
  go_wp2_with fail
  go_ret
  exact ⟨rfl, (Below.refl _ _).alloc (Nat.le_refl _) _⟩
theorem indexRune_hi (p q : UInt8) (hp : p.toNat < 128) (hq : q.toNat < 128) (x : Int) (h1 : 128 ≤ x) (h2 : x ≤ 1114111) (w : World) :
    Calls Tryz.prog 171 #[.string ⟨#[p, q]⟩, .int .i32 x] w fun e w' => e = .returned (.int .i64 (-1)) ∧ Below w.heap.size w w' := by
  by_cases a : x < 2048
  · exact indexRune_b p q hp hq x h1 a w
  by_cases b : x = 65533
  · subst b; exact indexRune_d p q hp hq w
  by_cases c : x < 55296
  · exact indexRune_c ⟨#[p, q]⟩ rfl x (by omega) h2 b (.inl c) w (fun w => validRune_lo x w (by omega) c)
  by_cases d : x ≤ 57343
  · exact indexRune_no ⟨#[p, q]⟩ rfl x (by omega) d w
  · exact indexRune_c ⟨#[p, q]⟩ rfl x (by omega) h2 b (.inr (by omega)) w (fun w => validRune_hi x w (by omega) h2)
def turn (p q p' q' : UInt8) (x : Int) : Int := if x = p.toNat then p'.toNat else if x = q.toNat then q'.toNat else x
theorem indexByte_two (p q : UInt8) (x : UInt8) : Lib.indexByte [p, q] x = if p = x then 0 else if q = x then 1 else -1 := by
  unfold Lib.indexByte
  by_cases h : p = x
  · simp [h]
  · unfold Lib.indexByte
    by_cases h2 : q = x
    · simp [h, h2]
    · simp [h, h2, Lib.indexByte]
theorem turned1_hi (p q : UInt8) (hp : p.toNat < 128) (hq : q.toNat < 128) (x : Int) (h1 : 128 ≤ x) (h2 : x ≤ 1114111) (b1 b2 : Nat) (w : World)
    (c1 : w.cell? ⟨b1, 0, none⟩ = some (.string ⟨#[p, q]⟩)) :
    Calls Tryz.prog 170 #[.int .i32 x, .pointer (some ⟨b1, 0, none⟩), .pointer (some ⟨b2, 0, none⟩)] w fun e w' => e = .returned (.int .i32 x) ∧ Below w.heap.size w w' := by
  go_enter Tryz.func170, Tryz.ntmps170
  go_wp2_with (go_at_call 171; refine (indexRune_hi p q hp hq x h1 h2 _).mono ?_; rintro e w' ⟨rfl, hb⟩)
  go_ret
  exact ⟨rfl, hb⟩
theorem w32 (u : UInt8) (hu : u.toNat < 128) : Ending.returned (.int .i32 (wrap32 (u.toNat : Int))) = Ending.returned (.int .i32 (u.toNat : Int)) := by
  rw [show wrap32 (u.toNat : Int) = u.toNat from by unfold wrap32; omega]
theorem indexRune_lo (p q u : UInt8) (hu : u.toNat < 128) (w : World) (i : Int) (hi : Lib.indexByte [p, q] u = i) :
    Calls Tryz.prog 171 #[.string ⟨#[p, q]⟩, .int .i32 u.toNat] w fun e w' => e = .returned (.int .i64 i) ∧ w = w' := by
  refine (Tryz.strings_IndexRune_ascii ⟨#[p, q]⟩ u.toNat w (by omega) (by omega)).mono fun e w' ⟨he, hw⟩ => ⟨?_, hw.symm⟩
  rw [he, ← hi]
  simp
theorem turned1_lo (p q p' q' u : UInt8) (hp' : p'.toNat < 128) (hq' : q'.toNat < 128) (hu : u.toNat < 128) (b1 b2 : Nat) (w : World)
    (c1 : w.cell? ⟨b1, 0, none⟩ = some (.string ⟨#[p, q]⟩)) (c2 : w.cell? ⟨b2, 0, none⟩ = some (.string ⟨#[p', q']⟩)) :
    Calls Tryz.prog 170 #[.int .i32 u.toNat, .pointer (some ⟨b1, 0, none⟩), .pointer (some ⟨b2, 0, none⟩)] w fun e w' => e = .returned (.int .i32 (turn p q p' q' u.toNat)) ∧ Below w.heap.size w w' := by
  have HI := indexByte_two p q u
  by_cases e1 : p = u
  · rw [if_pos e1] at HI
    have HT : Aside0 (turn p q p' q' u.toNat = p'.toNat) := ⟨by unfold turn; rw [e1]; simp⟩
    rw [HT.out]
    clear HT e1
    have HC := Amk (indexRune_lo p q u hu w 0 HI)
    clear HI
    go_enter Tryz.func170, Tryz.ntmps170
    go_wp2_with (go_at_call 171; refine HC.out.mono ?_; rintro e w' ⟨rfl, rfl⟩)
    go_ret
    exact ⟨w32 p' hp', Below.refl _ _⟩
  · rw [if_neg e1] at HI
    by_cases e2 : q = u
    · rw [if_pos e2] at HI
      have HT : Aside0 (turn p q p' q' u.toNat = q'.toNat) := ⟨by
        unfold turn; rw [e2, if_neg, if_pos rfl]
        intro h; exact e1 (UInt8.toNat_inj.1 (by omega))⟩
      rw [HT.out]
      clear HT e1 e2
      have HC := Amk (indexRune_lo p q u hu w 1 HI)
      clear HI
      go_enter Tryz.func170, Tryz.ntmps170
      go_wp2_with (go_at_call 171; refine HC.out.mono ?_; rintro e w' ⟨rfl, rfl⟩)
      go_ret
      exact ⟨w32 q' hq', Below.refl _ _⟩
    · rw [if_neg e2] at HI
      have HT : Aside0 (turn p q p' q' u.toNat = u.toNat) := ⟨by
        unfold turn; rw [if_neg, if_neg]
        · intro h; exact e2 (UInt8.toNat_inj.1 (by omega))
        · intro h; exact e1 (UInt8.toNat_inj.1 (by omega))⟩
      rw [HT.out]
      clear HT e1 e2
      have HC := Amk (indexRune_lo p q u hu w (-1) HI)
      clear HI
      go_enter Tryz.func170, Tryz.ntmps170
      go_wp2_with (go_at_call 171; refine HC.out.mono ?_; rintro e w' ⟨rfl, rfl⟩)
      go_ret
      exact ⟨rfl, Below.refl _ _⟩
theorem turned1 (p q p' q' : UInt8) (hp : p.toNat < 128) (hq : q.toNat < 128) (hp' : p'.toNat < 128) (hq' : q'.toNat < 128) (x : Nat) (hx : x ≤ 1114111) (b1 b2 : Nat) (w : World)
    (c1 : w.cell? ⟨b1, 0, none⟩ = some (.string ⟨#[p, q]⟩)) (c2 : w.cell? ⟨b2, 0, none⟩ = some (.string ⟨#[p', q']⟩)) :
    Calls Tryz.prog 170 #[.int .i32 x, .pointer (some ⟨b1, 0, none⟩), .pointer (some ⟨b2, 0, none⟩)] w fun e w' => e = .returned (.int .i32 (turn p q p' q' x)) ∧ Below w.heap.size w w' := by
  by_cases h : x < 128
  · obtain ⟨u, hu⟩ : ∃ u : UInt8, x = u.toNat := ⟨UInt8.ofNat x, by simp; omega⟩
    subst hu
    exact turned1_lo p q p' q' u hp' hq' h b1 b2 w c1 c2
  · have : turn p q p' q' x = x := by unfold turn; rw [if_neg (by omega), if_neg (by omega)]
    rw [this]
    exact turned1_hi p q hp hq x (by omega) (by omega) b1 b2 w c1
def turnedL (p q p' q' : UInt8) (l : List UInt8) : List UInt8 := Lib.mapD (turn p q p' q') l
theorem turned_any (s : ByteArray) (p q p' q' : UInt8) (hp : p.toNat < 128) (hq : q.toNat < 128) (hp' : p'.toNat < 128) (hq' : q'.toNat < 128) (w : World) (hG : WI w) (hs : s.size < 35184372088832) :
    Calls Tryz.prog 100 #[.string s, .string ⟨#[p, q]⟩, .string ⟨#[p', q']⟩] w fun e w' => e = .returned (.string ⟨(turnedL p q p' q' s.data.toList).toArray⟩) ∧ Below w.heap.size w w' := by
  have HG := Amk hG
  have HC : Aside0 (∀ W, WI W → ∀ b1 b2, W.cell? ⟨b1, 0, none⟩ = some (.string ⟨#[p, q]⟩) → W.cell? ⟨b2, 0, none⟩ = some (.string ⟨#[p', q']⟩) →
      Calls Tryz.prog 169 #[.func (.func 170) #[] #[.pointer (some ⟨b1, 0, none⟩), .pointer (some ⟨b2, 0, none⟩)], .string s] W fun e w' => e = .returned (.string ⟨(turnedL p q p' q' s.data.toList).toArray⟩) ∧ Below W.heap.size W w') :=
    ⟨fun W hW b1 b2 h1 h2 => Tryz.strings_Map_grows 170 _ (enters_of Tryz.func170 (by kernel_rfl) rfl) (turn p q p' q') s W hs
      (fun W' x hx hb => turned1 p q p' q' hp hq hp' hq' x hx b1 b2 W' ((hb.cell (World.block_lt_of_cell? W _ h1)).trans h1) ((hb.cell (World.block_lt_of_cell? W _ h2)).trans h2))
      (fun x hx => by unfold turn; repeat' split
                      all_goals omega) hW.1.1⟩
  clear hG
  have hmf : ∀ (fn : Fn) (first cap : Array Value) (w : World), (Instr.makeFunc fn first cap).run Tryz.prog w = .ok (.func fn first cap) w := fun _ _ _ _ => rfl
  go_enter Tryz.func100, Tryz.ntmps100
  have hb : Below w.heap.size w ((w.alloc (.cells #[.string ⟨#[p, q]⟩] 9)).alloc (.cells #[.string ⟨#[p', q']⟩] 9)) := ((Below.refl _ _).alloc (Nat.le_refl _) _).alloc (by simp) _
  have c1 : ((w.alloc (.cells #[.string ⟨#[p, q]⟩] 9)).alloc (.cells #[.string ⟨#[p', q']⟩] 9)).cell? ⟨w.heap.size, 0, none⟩ = some (.string ⟨#[p, q]⟩) := by simp
  have c2 : ((w.alloc (.cells #[.string ⟨#[p, q]⟩] 9)).alloc (.cells #[.string ⟨#[p', q']⟩] 9)).cell? ⟨w.heap.size + 1, 0, none⟩ = some (.string ⟨#[p', q']⟩) := by simp
  have HK := Amk (HC.out _ (WI.below HG.out hb) _ _ c1 c2)
  have HB := Amk hb
  clear hb c1 c2 HC
  go_wp2_with (go_at_call 169; refine HK.out.mono ?_; rintro e w2 ⟨rfl, hb2⟩)
  go_ret
  exact ⟨rfl, below_then HB.out HB.out.size hb2⟩
def topic_turned.f (a0 a1 a2 : ByteArray) : Option ByteArray :=
  if a0.size < 35184372088832 then
    (if a1 = ⟨#[46, 42]⟩ ∧ a2 = ⟨#[47, 43]⟩ then some ⟨(turnedL 46 42 47 43 a0.data.toList).toArray⟩
     else if a1 = ⟨#[47, 43]⟩ ∧ a2 = ⟨#[46, 42]⟩ then some ⟨(turnedL 47 43 46 42 a0.data.toList).toArray⟩ else none) else none
theorem topic_turned.calls (a0 a1 a2 : ByteArray) (r : ByteArray) (w : World) (hG : WI w) (h : topic_turned.f a0 a1 a2 = some r) :
    Calls Tryz.prog 100 #[.string a0, .string a1, .string a2] w fun e w' => e = .returned (.string r) ∧ Below w.heap.size w w' := by
  unfold topic_turned.f at h
  split at h
  case isFalse => cases h
  case isTrue hs =>
    split at h
    case isTrue hc =>
      obtain ⟨rfl, rfl⟩ := hc
      obtain rfl := Option.some.inj h
      exact turned_any a0 46 42 47 43 (by decide) (by decide) (by decide) (by decide) w hG hs
    case isFalse =>
      split at h
      case isTrue hc =>
        obtain ⟨rfl, rfl⟩ := hc
        obtain rfl := Option.some.inj h
        exact turned_any a0 47 43 46 42 (by decide) (by decide) (by decide) (by decide) w hG hs
      case isFalse => cases h
end Go.Proofs.YtednegmjjjdinaaGreatDoor.Ext
