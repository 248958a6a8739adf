/- Contracts proved by hand: strings.ContainsAny of any text at two ASCII bytes. -/
import Derived.Test.YtednegmjjjdinaaDoorXc
import Derived.Laws.RangeAny
import Derived.Lib.OthersKept
namespace Go.Proofs.YtednegmjjjdinaaDoor.Ext
open Go.RowKit Go.Proofs.YtednegmjjjdinaaDoorW.PrintWords Go.Proofs.YtednegmjjjdinaaDoorW.PrintLast Go.Proofs.YtednegmjjjdinaaDoorW.PrintMore

theorem get_of (s : ByteArray) (j : Nat) (b : UInt8) (h : s.data.toList[j]? = some b) : s.get! j = b := by
  obtain ⟨⟨l⟩⟩ := s
  simp [ByteArray.get!] at h ⊢
  simp [h]

theorem get_at (s : ByteArray) (j : Nat) (h : j < s.size) : s.data.toList[j]? = some (s.get! j) := by
  have hl : j < s.data.toList.length := by rw [← Lib.size_eq]; exact h
  rw [List.getElem?_eq_getElem hl]
  exact congrArg some (get_of s j _ (List.getElem?_eq_getElem hl)).symm
theorem div64 (n : Nat) (h : (n / 64 == 2) = true) : 128 ≤ n := by
  have := beq_iff_eq.1 h; omega
/-- A rune that begins with a byte beyond ASCII: it lies beyond ASCII, and so do all its bytes. -/
theorem decode_hi (s : ByteArray) (pos : Nat) (hb : 128 ≤ (s.get! pos).toNat) :
    128 ≤ (Utf8.decode s pos).1 ∧ (Utf8.decode s pos).1 ≤ 1114111 ∧ 1 ≤ (Utf8.decode s pos).2 ∧ ∀ k, k < (Utf8.decode s pos).2 → 128 ≤ (s.get! (pos + k)).toNat := by
  have h0 : ∀ k, k < 1 → 128 ≤ (s.get! (pos + k)).toNat := fun k hk => by
    obtain rfl : k = 0 := by omega
    exact hb
  unfold Utf8.decode
  simp only [Nat.add_zero]
  rw [if_neg (by omega)]
  have l0 := (s.get! pos).toNat_lt
  split
  · rename_i h1
    simp only [Bool.and_eq_true, beq_iff_eq, decide_eq_true_eq] at h1
    have c1 : 128 ≤ (s.get! (pos + 1)).toNat := by omega
    have l1 := (s.get! (pos + 1)).toNat_lt
    split
    · refine ⟨by omega, by show _ ≤ _; omega, by show 1 ≤ _; omega, fun k hk => ?_⟩
      have : k = 0 ∨ k = 1 := by simp at hk; omega
      rcases this with rfl | rfl
      · exact hb
      · exact c1
    · exact ⟨by decide, by decide, Nat.le_refl _, h0⟩
  · split
    · rename_i h1
      simp only [Bool.and_eq_true, beq_iff_eq, decide_eq_true_eq] at h1
      have c1 : 128 ≤ (s.get! (pos + 1)).toNat := by omega
      have c2 : 128 ≤ (s.get! (pos + 2)).toNat := by omega
      split
      · refine ⟨by rename_i h2; simp at h2; show _ ≤ _; omega, by show _ ≤ _; omega, by show 1 ≤ _; omega, fun k hk => ?_⟩
        have : k = 0 ∨ k = 1 ∨ k = 2 := by simp at hk; omega
        rcases this with rfl | rfl | rfl
        · exact hb
        · exact c1
        · exact c2
      · exact ⟨by decide, by decide, Nat.le_refl _, h0⟩
    · split
      · rename_i h1
        simp only [Bool.and_eq_true, beq_iff_eq, decide_eq_true_eq] at h1
        have c1 : 128 ≤ (s.get! (pos + 1)).toNat := by omega
        have c2 : 128 ≤ (s.get! (pos + 2)).toNat := by omega
        have c3 : 128 ≤ (s.get! (pos + 3)).toNat := by omega
        split
        · rename_i h2
          simp only [Bool.and_eq_true, decide_eq_true_eq, ge_iff_le] at h2
          have hv := h2.2
          unfold Utf8.valid at hv
          refine ⟨by show _ ≤ _; omega, by simp at hv; show _ ≤ _; omega, by show 1 ≤ _; omega, fun k hk => ?_⟩
          have : k = 0 ∨ k = 1 ∨ k = 2 ∨ k = 3 := by simp at hk; omega
          rcases this with rfl | rfl | rfl | rfl
          · exact hb
          · exact c1
          · exact c2
          · exact c3
        · exact ⟨by decide, by decide, Nat.le_refl _, h0⟩
      · exact ⟨by decide, by decide, Nat.le_refl _, h0⟩
theorem decode_lo (s : ByteArray) (pos : Nat) (hb : (s.get! pos).toNat < 128) : Utf8.decode s pos = ((s.get! pos).toNat, 1) := by
  unfold Utf8.decode
  simp only [Nat.add_zero]
  rw [if_pos (by omega)]

theorem noAny_more {s : ByteArray} {p q : UInt8} (hp : p.toNat < 128) (hq : q.toNat < 128) {i n : Nat} (h : Lib.NoAny s.data.toList [p, q] i) (hn : ∀ k, k < n → 128 ≤ (s.get! (i + k)).toNat) : Lib.NoAny s.data.toList [p, q] (i + n) := fun j b hj hb => by
  by_cases e : j < i
  · exact h j b e hb
  · have := hn (j - i) (by omega)
    rw [show i + (j - i) = j from by omega, get_of s j b hb] at this
    have h1 : b ≠ p := by rintro rfl; omega
    have h2 : b ≠ q := by rintro rfl; omega
    simp [h1, h2]

def IdxAny (l : List UInt8) (p q : UInt8) (w : World) (e : Ending) (w' : World) : Prop :=
  ∃ i : Int, e = .returned (.int .i64 i) ∧ Aside0 (0 ≤ i ↔ ∃ b ∈ l, b = p ∨ b = q) ∧ Below w.heap.size w w'

theorem any_none (l : List UInt8) (p q : UInt8) (n : Nat) (hn : l.length ≤ n) (h : Lib.NoAny l [p, q] n) : ¬ ∃ b ∈ l, b = p ∨ b = q := by
  rintro ⟨b, hb, h2⟩
  obtain ⟨j, hj, rfl⟩ := List.getElem_of_mem hb
  have := h j l[j] (by omega) (List.getElem?_eq_getElem hj)
  simp at this
  rcases h2 with h2 | h2
  · exact this.1 h2
  · exact this.2 h2

set_option maxHeartbeats 4000000 in
set_option maxRecDepth 1000000 in
theorem indexAny_short (s : ByteArray) (p q : UInt8) (hp : p.toNat < 128) (hq : q.toNat < 128) (w : World) (h8 : s.size ≤ 8) :
    Calls Tryd.prog 45 #[.string s, .string ⟨#[p, q]⟩] w (IdxAny s.data.toList p q w) := by
  have h8z : decide ((8 : Int) < (s.size : Int)) = false := decide_eq_false (by omega)
  have hb8 : ∀ W, Calls Tryd.prog 69 #[.int .i64 s.size] W fun e w' => e = .returned (.bool false) ∧ W = w' := fun W => by
    go_enter Tryd.func69, Tryd.ntmps69
    go_wp2
    go_ret
    exact ⟨rfl, rfl⟩
  have HB8 := Aside0.mk hb8
  clear hb8 h8z
  go_enter Tryd.func45, Tryd.ntmps45
  go_wp2_with (go_at_call 69; refine (HB8.out _).mono ?_; rintro e w' ⟨rfl, rfl⟩)
  go_loopg [9, 10] s.size (fun g _ _ wx => ∃ i : Nat, s.size ≤ i + g ∧ Aside0 (Below w.heap.size w wx) ∧ Aside0 (w.heap.size < wx.heap.size) ∧ wx.heap[w.heap.size]? = some (.stringIter s i) ∧ Aside0 (Lib.NoAny s.data.toList [p, q] i))
  case atStart => exact ⟨0, by omega, ⟨(Below.refl _ _).alloc (Nat.le_refl _) _⟩, ⟨by simp [World.iter]⟩, heap_alloc_new _ _, ⟨Lib.NoAny.zero _ _⟩⟩
  case round =>
    obtain ⟨i, hig, HB, HL, hit, HN⟩ := hrel
    by_cases hi : i < s.size
    · have hnx := fun ty => Lib.run_next_any_at (P := Tryd.prog) wr w.heap.size s i ty hit hi
      have hD : Aside0 (Utf8.decode s i = ((Utf8.decode s i).1, (Utf8.decode s i).2)) := ⟨rfl⟩
      have HB' : Aside0 (∀ pos, Below w.heap.size w (wr.iterAt w.heap.size s pos)) := ⟨fun pos => Lib.below_iterAt HB.out (Nat.le_refl _) s pos⟩
      have HL' : Aside0 (∀ pos, w.heap.size < (wr.iterAt w.heap.size s pos).heap.size) := ⟨fun pos => by rw [Lib.iterAt_size]; exact HL.out⟩
      have HI' : Aside0 (∀ pos, (wr.iterAt w.heap.size s pos).heap[w.heap.size]? = some (.stringIter s pos)) := ⟨fun pos => Lib.iterAt_heap wr _ s i pos hit⟩
      by_cases hc : (s.get! i).toNat < 128
      · rw [decode_lo s i hc] at hnx
        simp only [] at hnx
        have hxl : s.data.toList[i]? = some (s.get! i) := get_at s i hi
        generalize s.get! i = x at *
        have Hxl := Aside0.mk hxl
        clear hxl hD
        have HX := indexByte_two p q x
        by_cases e1 : p = x
        · rw [if_pos e1] at HX
          have HC : Aside0 (∀ W, Calls Tryd.prog 44 #[.string ⟨#[p, q]⟩, .int .i32 x.toNat] W fun e w' => e = .returned (.int .i64 0) ∧ W = w') := ⟨fun W => indexRune_lo p q x hc W 0 HX⟩
          have HF : Aside0 (∃ b ∈ s.data.toList, b = p ∨ b = q) := ⟨x, List.mem_of_getElem? Hxl.out, .inl e1.symm⟩
          clear e1 HX
          go_wp2_with (go_at_call 44; refine (HC.out _).mono ?_; rintro e w' ⟨rfl, rfl⟩)
          go_ret
          exact ⟨i, rfl, ⟨⟨fun _ => HF.out, fun _ => by omega⟩⟩, HB'.out _⟩
        · rw [if_neg e1] at HX
          by_cases e2 : q = x
          · rw [if_pos e2] at HX
            have HC : Aside0 (∀ W, Calls Tryd.prog 44 #[.string ⟨#[p, q]⟩, .int .i32 x.toNat] W fun e w' => e = .returned (.int .i64 1) ∧ W = w') := ⟨fun W => indexRune_lo p q x hc W 1 HX⟩
            have HF : Aside0 (∃ b ∈ s.data.toList, b = p ∨ b = q) := ⟨x, List.mem_of_getElem? Hxl.out, .inr e2.symm⟩
            clear e1 e2 HX
            go_wp2_with (go_at_call 44; refine (HC.out _).mono ?_; rintro e w' ⟨rfl, rfl⟩)
            go_ret
            exact ⟨i, rfl, ⟨⟨fun _ => HF.out, fun _ => by omega⟩⟩, HB'.out _⟩
          · rw [if_neg e2] at HX
            have HC : Aside0 (∀ W, Calls Tryd.prog 44 #[.string ⟨#[p, q]⟩, .int .i32 x.toNat] W fun e w' => e = .returned (.int .i64 (-1)) ∧ W = w') := ⟨fun W => indexRune_lo p q x hc W (-1) HX⟩
            have HN2 : Aside0 (Lib.NoAny s.data.toList [p, q] (i + 1)) := ⟨HN.out.succ Hxl.out (by simp [Ne.symm e1, Ne.symm e2])⟩
            clear e1 e2 HX
            cases gk with
            | zero => exact absurd hi (by omega)
            | succ g =>
              go_wp2_with (go_at_call 44; refine (HC.out _).mono ?_; rintro e w' ⟨rfl, rfl⟩)
              go_roundg g
              case measure => omega
              case rel => exact ⟨i + 1, by omega, ⟨HB'.out _⟩, ⟨HL'.out _⟩, HI'.out _, HN2⟩
      · obtain ⟨d1, d2, d3, d4⟩ := decode_hi s i (by omega)
        have HN2 : Aside0 (Lib.NoAny s.data.toList [p, q] (i + (Utf8.decode s i).2)) := ⟨noAny_more hp hq HN.out d4⟩
        clear hc d4 hD HN
        generalize Utf8.decode s i = d at *
        obtain ⟨c, n⟩ := d
        simp only [] at hnx d1 d2 d3 HN2
        have HC : Aside0 (∀ W, Calls Tryd.prog 44 #[.string ⟨#[p, q]⟩, .int .i32 c] W fun e w' => e = .returned (.int .i64 (-1)) ∧ Below W.heap.size W w') := ⟨fun W => indexRune_hi p q hp hq c (by omega) (by omega) W⟩
        cases gk with
        | zero => exact absurd hi (by omega)
        | succ g =>
          go_wp2_with (go_at_call 44; refine (HC.out _).mono ?_; rintro e w2 ⟨rfl, hb2⟩)
          have HB2 := Aside0.mk hb2
          clear hb2
          go_roundg g
          case measure => omega
          case rel => exact ⟨i + n, by omega, ⟨below_then (HB'.out _) (HB'.out _).size HB2.out⟩, ⟨Nat.lt_of_lt_of_le (HL'.out _) HB2.out.size⟩, (HB2.out.block _ (HL'.out _)).trans (HI'.out _), HN2⟩
    · have hnx := fun ty => Lib.run_next_end_at (P := Tryd.prog) wr w.heap.size s i ty hit hi
      go_wp2
      go_ret
      exact ⟨-1, rfl, ⟨⟨fun h => absurd h (by decide), fun h => absurd h (any_none _ p q i (by rw [← Lib.size_eq]; omega) HN.out)⟩⟩, HB.out⟩

theorem indexAny_iff (l cs : List UInt8) : 0 ≤ Lib.indexAny l cs ↔ ∃ b ∈ l, cs.contains b = true := by
  induction l with
  | nil => simp [Lib.indexAny]
  | cons b l ih =>
    have hge := Lib.indexAny_ge cs l
    unfold Lib.indexAny
    by_cases h : cs.contains b = true
    · rw [if_pos h]; exact ⟨fun _ => ⟨b, by simp, h⟩, fun _ => by omega⟩
    · rw [if_neg h]
      have hb : (∃ x ∈ b :: l, cs.contains x = true) ↔ ∃ x ∈ l, cs.contains x = true := by
        constructor
        · rintro ⟨x, hx, h2⟩
          rcases List.mem_cons.1 hx with rfl | hx
          · exact absurd h2 h
          · exact ⟨x, hx, h2⟩
        · rintro ⟨x, hx, h2⟩; exact ⟨x, List.mem_cons_of_mem _ hx, h2⟩
      rw [hb, ← ih]
      split
      · rename_i h2; have := beq_iff_eq.1 h2; omega
      · rename_i h2; have : Lib.indexAny l cs ≠ -1 := fun e => h2 (beq_iff_eq.2 e); omega

theorem zero54 : ∀ w, (zeroValue 54).run Tryd.prog w = .ok (.agg (Array.replicate 256 (.bool false))) w := (zero_of_info (P := Tryd.prog) (t := 54) (n := 256) (by kernel_rfl)).1
theorem indexAny_long (s : ByteArray) (p q : UInt8) (hp : p.toNat < 128) (hq : q.toNat < 128) (w : World) (h8 : 8 < s.size) (hs : s.size < 4294967281) :
    Calls Tryd.prog 45 #[.string s, .string ⟨#[p, q]⟩] w (IdxAny s.data.toList p q w) := by
  have hasc : ∀ (j : Nat) b, (⟨#[p, q]⟩ : ByteArray).data.toList[j]? = some b → b.toNat < 128 := fun j b hb => by
    have := List.mem_of_getElem? hb
    simp at this
    rcases this with rfl | rfl
    · exact hp
    · exact hq
  refine (Any.strings_IndexAny_long Tryd.lays153 zero54 (by kernel_rfl) s ⟨#[p, q]⟩ w (Nat.le_refl 2) h8 hs (by show 2 < _; decide) hasc).mono fun e w' ⟨he, hw⟩ => ⟨_, he, ⟨?_⟩, ?_⟩
  · rw [indexAny_iff]
    simp
  · rw [hw]
    exact ((Below.refl _ _).alloc (Nat.le_refl _) _).alloc (by simp) _
theorem indexAny_any (s : ByteArray) (p q : UInt8) (hp : p.toNat < 128) (hq : q.toNat < 128) (w : World) (hs : s.size < 4294967281) :
    Calls Tryd.prog 45 #[.string s, .string ⟨#[p, q]⟩] w (IdxAny s.data.toList p q w) := by
  by_cases h8 : s.size ≤ 8
  · exact indexAny_short s p q hp hq w h8
  · exact indexAny_long s p q hp hq w (by omega) hs

def hasDot (l : List UInt8) : Bool := l.any fun b => b == 46 || b == 42
def strings_ContainsAny.f (a0 a1 : ByteArray) : Option Bool := if a1 = ⟨#[46, 42]⟩ ∧ a0.size < 4294967281 then some (hasDot a0.data.toList) else none
theorem strings_ContainsAny.calls (a0 a1 : ByteArray) (r : Bool) (w : World) (_hG : WI w) (h : strings_ContainsAny.f a0 a1 = some r) :
    Calls Tryd.prog 36 #[.string a0, .string a1] w fun e w' => e = .returned (.bool r) ∧ Below w.heap.size w w' := by
  clear _hG
  unfold strings_ContainsAny.f at h
  split at h
  case isFalse => cases h
  case isTrue hc =>
    obtain ⟨rfl, hs⟩ := hc
    obtain rfl := Option.some.inj h
    have HC := Aside0.mk (indexAny_any a0 46 42 (by decide) (by decide) w hs)
    clear hs h
    go_enter Tryd.func36, Tryd.ntmps36
    go_wp2_with (go_at_call 45; refine HC.out.mono ?_; rintro e w2 ⟨i, rfl, HI, hb⟩)
    go_ret
    refine ⟨?_, hb⟩
    have : decide (0 ≤ i) = hasDot a0.data.toList := by
      rw [Bool.eq_iff_iff, decide_eq_true_iff, HI.out]
      simp only [hasDot, List.any_eq_true, Bool.or_eq_true, beq_iff_eq]
    rw [← this]
    rfl
end Go.Proofs.YtednegmjjjdinaaDoor.Ext
