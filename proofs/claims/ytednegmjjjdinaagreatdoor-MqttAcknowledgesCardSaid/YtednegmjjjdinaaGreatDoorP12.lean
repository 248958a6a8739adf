/- Texts of this claim's author, joined and pruned by a program of his (pack.py): Xd, Za, Zb, Zc, Zd, Ze, Zf, Zx, QT0, QT1, M3, Yu, QG0, QG1. -/
import Derived.Test.YtednegmjjjdinaaGreatDoorP0
import Derived.Test.YtednegmjjjdinaaGreatDoorP1
import Derived.Test.YtednegmjjjdinaaGreatDoorP2
import Derived.Test.YtednegmjjjdinaaGreatDoorP3
import Derived.Test.YtednegmjjjdinaaGreatDoorP4
import Derived.Test.YtednegmjjjdinaaGreatDoorP5
import Derived.Test.YtednegmjjjdinaaGreatDoorP7
import Derived.Test.YtednegmjjjdinaaGreatDoorP10
import Derived.Test.YtednegmjjjdinaaGreatDoorP11
set_option maxRecDepth 100000
set_option maxHeartbeats 4000000
open Go.Proofs.YtednegmjjjdinaaGreatDoorW.PrintWords renaming below_alloc → bal, below_drew1 → bdr
open List renaming setIfInBounds_toArray → Lsa, set_cons_zero → Lsz, set_cons_succ → Lss
open Go.Proofs.YtednegmjjjdinaaGreatDoorW.PrintWords.Aside0 renaming mk → Amk
namespace Go.Proofs.YtednegmjjjdinaaGreatDoor.Ext
open Go.RowKit Go.Proofs.YtednegmjjjdinaaGreatDoorW.PrintWords Go.Proofs.YtednegmjjjdinaaGreatDoorW.PrintLast Go.Proofs.YtednegmjjjdinaaGreatDoorW.PrintMore
theorem get_of (s : ByteArray) (j : Nat) (b : UInt8) (h : s.data.toList[j]? = some b) : s.get! j = b := by
 obtain ⟨⟨l⟩⟩ := s
 simp [ByteArray.get!] at h ⊢
 simp [h]
theorem get_at (s : ByteArray) (j : Nat) (h : j < s.size) : s.data.toList[j]? = some (s.get! j) := by
 have hl : j < s.data.toList.length := by rw [← Lib.size_eq]; exact h
 rw [List.getElem?_eq_getElem hl]
 exact congrArg some (get_of s j _ (List.getElem?_eq_getElem hl)).symm
theorem decode_hi (s : ByteArray) (pos : Nat) (hb : 128 ≤ (s.get! pos).toNat) :
  128 ≤ (Utf8.decode s pos).1 ∧ (Utf8.decode s pos).1 ≤ 1114111 ∧ 1 ≤ (Utf8.decode s pos).2 ∧ ∀ k, k < (Utf8.decode s pos).2 → 128 ≤ (s.get! (pos + k)).toNat := by
 have h0 : ∀ k, k < 1 → 128 ≤ (s.get! (pos + k)).toNat := fun k hk => by
  obtain rfl : k = 0 := by omega
  exact hb
 unfold Utf8.decode
 simp only [Nat.add_zero]
 rw [if_neg (by omega)]
 have l0 := (s.get! pos).toNat_lt
 split
 ·
  rename_i h1
  simp only [Bool.and_eq_true, beq_iff_eq, decide_eq_true_eq] at h1
  have c1 : 128 ≤ (s.get! (pos + 1)).toNat := by omega
  have l1 := (s.get! (pos + 1)).toNat_lt
  split
  ·
   refine ⟨by omega, by show _ ≤ _; omega, by show 1 ≤ _; omega, fun k hk => ?_⟩
   have : k = 0 ∨ k = 1 := by simp at hk; omega
   rcases this with rfl | rfl
   ·
    exact hb
   ·
    exact c1
  ·
   exact ⟨by decide, by decide, Nat.le_refl _, h0⟩
 ·
  split
  ·
   rename_i h1
   simp only [Bool.and_eq_true, beq_iff_eq, decide_eq_true_eq] at h1
   have c1 : 128 ≤ (s.get! (pos + 1)).toNat := by omega
   have c2 : 128 ≤ (s.get! (pos + 2)).toNat := by omega
   split
   ·
    refine ⟨by rename_i h2; simp at h2; show _ ≤ _; omega, by show _ ≤ _; omega, by show 1 ≤ _; omega, fun k hk => ?_⟩
    have : k = 0 ∨ k = 1 ∨ k = 2 := by simp at hk; omega
    rcases this with rfl | rfl | rfl
    ·
     exact hb
    ·
     exact c1
    ·
     exact c2
   ·
    exact ⟨by decide, by decide, Nat.le_refl _, h0⟩
  ·
   split
   ·
    rename_i h1
    simp only [Bool.and_eq_true, beq_iff_eq, decide_eq_true_eq] at h1
    have c1 : 128 ≤ (s.get! (pos + 1)).toNat := by omega
    have c2 : 128 ≤ (s.get! (pos + 2)).toNat := by omega
    have c3 : 128 ≤ (s.get! (pos + 3)).toNat := by omega
    split
    ·
     rename_i h2
     simp only [Bool.and_eq_true, decide_eq_true_eq, ge_iff_le] at h2
     have hv := h2.2
     unfold Utf8.valid at hv
     refine ⟨by show _ ≤ _; omega, by simp at hv; show _ ≤ _; omega, by show 1 ≤ _; omega, fun k hk => ?_⟩
     have : k = 0 ∨ k = 1 ∨ k = 2 ∨ k = 3 := by simp at hk; omega
     rcases this with rfl | rfl | rfl | rfl
     ·
      exact hb
     ·
      exact c1
     ·
      exact c2
     ·
      exact c3
    ·
     exact ⟨by decide, by decide, Nat.le_refl _, h0⟩
   ·
    exact ⟨by decide, by decide, Nat.le_refl _, h0⟩
theorem decode_lo (s : ByteArray) (pos : Nat) (hb : (s.get! pos).toNat < 128) : Utf8.decode s pos = ((s.get! pos).toNat, 1) := by
 unfold Utf8.decode
 simp only [Nat.add_zero]
 rw [if_pos (by omega)]
theorem noAny_more {s : ByteArray} {p q : UInt8} (hp : p.toNat < 128) (hq : q.toNat < 128) {i n : Nat} (h : Lib.NoAny s.data.toList [p, q] i) (hn : ∀ k, k < n → 128 ≤ (s.get! (i + k)).toNat) : Lib.NoAny s.data.toList [p, q] (i + n) := fun j b hj hb => by
 by_cases e : j < i
 ·
  exact h j b e hb
 ·
  have := hn (j - i) (by omega)
  rw [show i + (j - i) = j from by omega, get_of s j b hb] at this
  have h1 : b ≠ p := by rintro rfl; omega
  have h2 : b ≠ q := by rintro rfl; omega
  simp [h1, h2]
def IdxAny (l : List UInt8) (p q : UInt8) (w : World) (e : Ending) (w' : World) : Prop :=
 ∃ i : Int, e = .returned (.int .i64 i) ∧ Aside0 (0 ≤ i ↔ ∃ b ∈ l, b = p ∨ b = q) ∧ Below w.heap.size w w'
theorem any_none (l : List UInt8) (p q : UInt8) (n : Nat) (hn : l.length ≤ n) (h : Lib.NoAny l [p, q] n) : ¬ ∃ b ∈ l, b = p ∨ b = q := by
 rintro ⟨b, hb, h2⟩
 obtain ⟨j, hj, rfl⟩ := List.getElem_of_mem hb
 have := h j l[j] (by omega) (List.getElem?_eq_getElem hj)
 simp at this
 rcases h2 with h2 | h2
 ·
  exact this.1 h2
 ·
  exact this.2 h2
theorem indexAny_short (s : ByteArray) (p q : UInt8) (hp : p.toNat < 128) (hq : q.toNat < 128) (w : World) (h8 : s.size ≤ 8) :
  Calls Tryz.prog 172 #[.string s, .string ⟨#[p, q]⟩] w (IdxAny s.data.toList p q w) := by
 have h8z : decide ((8 : Int) < (s.size : Int)) = false := decide_eq_false (by omega)
 have hb8 : ∀ W, Calls Tryz.prog 243 #[.int .i64 s.size] W fun e w' => e = .returned (.bool false) ∧ W = w' := fun W => by
  go_enter Tryz.func243, Tryz.ntmps243
  go_wp2
  go_ret
  exact ⟨rfl, rfl⟩
 have HB8 := Amk hb8
 clear hb8 h8z
 go_enter Tryz.func172, Tryz.ntmps172
 go_wp2_with (go_at_call 243; refine (HB8.out _).mono ?_; rintro e w' ⟨rfl, rfl⟩)
 go_loopg [9, 10] s.size (fun g _ _ wx => ∃ i : Nat, s.size ≤ i + g ∧ Aside0 (Below w.heap.size w wx) ∧ Aside0 (w.heap.size < wx.heap.size) ∧ wx.heap[w.heap.size]? = some (.stringIter s i) ∧ Aside0 (Lib.NoAny s.data.toList [p, q] i))
 case atStart => exact ⟨0, by omega, ⟨(Below.refl _ _).alloc (Nat.le_refl _) _⟩, ⟨by simp [World.iter]⟩, heap_alloc_new _ _, ⟨Lib.NoAny.zero _ _⟩⟩
 case round =>
  obtain ⟨i, hig, HB, HL, hit, HN⟩ := hrel
  by_cases hi : i < s.size
  ·
   have hnx := fun ty => Lib.run_next_any_at (P := Tryz.prog) wr w.heap.size s i ty hit hi
   have hD : Aside0 (Utf8.decode s i = ((Utf8.decode s i).1, (Utf8.decode s i).2)) := ⟨rfl⟩
   have HB' : Aside0 (∀ pos, Below w.heap.size w (wr.iterAt w.heap.size s pos)) := ⟨fun pos => Lib.below_iterAt HB.out (Nat.le_refl _) s pos⟩
   have HL' : Aside0 (∀ pos, w.heap.size < (wr.iterAt w.heap.size s pos).heap.size) := ⟨fun pos => by rw [Lib.iterAt_size]; exact HL.out⟩
   have HI' : Aside0 (∀ pos, (wr.iterAt w.heap.size s pos).heap[w.heap.size]? = some (.stringIter s pos)) := ⟨fun pos => Lib.iterAt_heap wr _ s i pos hit⟩
   by_cases hc : (s.get! i).toNat < 128
   ·
    rw [decode_lo s i hc] at hnx
    simp only [] at hnx
    have hxl : s.data.toList[i]? = some (s.get! i) := get_at s i hi
    generalize s.get! i = x at *
    have Hxl := Amk hxl
    clear hxl hD
    have HX := indexByte_two p q x
    by_cases e1 : p = x
    ·
     rw [if_pos e1] at HX
     have HC : Aside0 (∀ W, Calls Tryz.prog 171 #[.string ⟨#[p, q]⟩, .int .i32 x.toNat] W fun e w' => e = .returned (.int .i64 0) ∧ W = w') := ⟨fun W => indexRune_lo p q x hc W 0 HX⟩
     have HF : Aside0 (∃ b ∈ s.data.toList, b = p ∨ b = q) := ⟨x, List.mem_of_getElem? Hxl.out, .inl e1.symm⟩
     clear e1 HX
     go_wp2_with (go_at_call 171; refine (HC.out _).mono ?_; rintro e w' ⟨rfl, rfl⟩)
     go_ret
     exact ⟨i, rfl, ⟨⟨fun _ => HF.out, fun _ => by omega⟩⟩, HB'.out _⟩
    ·
     rw [if_neg e1] at HX
     by_cases e2 : q = x
     ·
      rw [if_pos e2] at HX
      have HC : Aside0 (∀ W, Calls Tryz.prog 171 #[.string ⟨#[p, q]⟩, .int .i32 x.toNat] W fun e w' => e = .returned (.int .i64 1) ∧ W = w') := ⟨fun W => indexRune_lo p q x hc W 1 HX⟩
      have HF : Aside0 (∃ b ∈ s.data.toList, b = p ∨ b = q) := ⟨x, List.mem_of_getElem? Hxl.out, .inr e2.symm⟩
      clear e1 e2 HX
      go_wp2_with (go_at_call 171; refine (HC.out _).mono ?_; rintro e w' ⟨rfl, rfl⟩)
      go_ret
      exact ⟨i, rfl, ⟨⟨fun _ => HF.out, fun _ => by omega⟩⟩, HB'.out _⟩
     ·
      rw [if_neg e2] at HX
      have HC : Aside0 (∀ W, Calls Tryz.prog 171 #[.string ⟨#[p, q]⟩, .int .i32 x.toNat] W fun e w' => e = .returned (.int .i64 (-1)) ∧ W = w') := ⟨fun W => indexRune_lo p q x hc W (-1) HX⟩
      have HN2 : Aside0 (Lib.NoAny s.data.toList [p, q] (i + 1)) := ⟨HN.out.succ Hxl.out (by simp [Ne.symm e1, Ne.symm e2])⟩
      clear e1 e2 HX
      cases gk with
      | zero => exact absurd hi (by omega)
      | succ g =>
       go_wp2_with (go_at_call 171; refine (HC.out _).mono ?_; rintro e w' ⟨rfl, rfl⟩)
       go_roundg g
       case measure => omega
       case rel => exact ⟨i + 1, by omega, ⟨HB'.out _⟩, ⟨HL'.out _⟩, HI'.out _, HN2⟩
   ·
    obtain ⟨d1, d2, d3, d4⟩ := decode_hi s i (by omega)
    have HN2 : Aside0 (Lib.NoAny s.data.toList [p, q] (i + (Utf8.decode s i).2)) := ⟨noAny_more hp hq HN.out d4⟩
    clear hc d4 hD HN
    generalize Utf8.decode s i = d at *
    obtain ⟨c, n⟩ := d
    simp only [] at hnx d1 d2 d3 HN2
    have HC : Aside0 (∀ W, Calls Tryz.prog 171 #[.string ⟨#[p, q]⟩, .int .i32 c] W fun e w' => e = .returned (.int .i64 (-1)) ∧ Below W.heap.size W w') := ⟨fun W => indexRune_hi p q hp hq c (by omega) (by omega) W⟩
    cases gk with
    | zero => exact absurd hi (by omega)
    | succ g =>
     go_wp2_with (go_at_call 171; refine (HC.out _).mono ?_; rintro e w2 ⟨rfl, hb2⟩)
     have HB2 := Amk hb2
     clear hb2
     go_roundg g
     case measure => omega
     case rel => exact ⟨i + n, by omega, ⟨below_then (HB'.out _) (HB'.out _).size HB2.out⟩, ⟨Nat.lt_of_lt_of_le (HL'.out _) HB2.out.size⟩, (HB2.out.block _ (HL'.out _)).trans (HI'.out _), HN2⟩
  ·
   have hnx := fun ty => Lib.run_next_end_at (P := Tryz.prog) wr w.heap.size s i ty hit hi
   go_wp2
   go_ret
   exact ⟨-1, rfl, ⟨⟨fun h => absurd h (by decide), fun h => absurd h (any_none _ p q i (by rw [← Lib.size_eq]; omega) HN.out)⟩⟩, HB.out⟩
theorem indexAny_iff (l cs : List UInt8) : 0 ≤ Lib.indexAny l cs ↔ ∃ b ∈ l, cs.contains b = true := by
 induction l with
 | nil => simp [Lib.indexAny]
 | cons b l ih =>
  have hge := Lib.indexAny_ge cs l
  unfold Lib.indexAny
  by_cases h : cs.contains b = true
  ·
   rw [if_pos h]; exact ⟨fun _ => ⟨b, by simp, h⟩, fun _ => by omega⟩
  ·
   rw [if_neg h]
   have hb : (∃ x ∈ b :: l, cs.contains x = true) ↔ ∃ x ∈ l, cs.contains x = true := by
    constructor
    ·
     rintro ⟨x, hx, h2⟩
     rcases List.mem_cons.1 hx with rfl | hx
     ·
      exact absurd h2 h
     ·
      exact ⟨x, hx, h2⟩
    ·
     rintro ⟨x, hx, h2⟩; exact ⟨x, List.mem_cons_of_mem _ hx, h2⟩
   rw [hb, ← ih]
   split
   ·
    rename_i h2; have := beq_iff_eq.1 h2; omega
   ·
    rename_i h2; have : Lib.indexAny l cs ≠ -1 := fun e => h2 (beq_iff_eq.2 e); omega
theorem zeroAS : ∀ w, (zeroValue 242).run Tryz.prog w = .ok (.agg (Array.replicate 256 (.bool false))) w := (zero_of_info (P := Tryz.prog) (t := 242) (n := 256) (by kernel_rfl)).1
theorem indexAny_long (s : ByteArray) (p q : UInt8) (hp : p.toNat < 128) (hq : q.toNat < 128) (w : World) (h8 : 8 < s.size) (hs : s.size < 4294967281) :
  Calls Tryz.prog 172 #[.string s, .string ⟨#[p, q]⟩] w (IdxAny s.data.toList p q w) := by
 have hasc : ∀ (j : Nat) b, (⟨#[p, q]⟩ : ByteArray).data.toList[j]? = some b → b.toNat < 128 := fun j b hb => by
  have := List.mem_of_getElem? hb
  simp at this
  rcases this with rfl | rfl
  ·
   exact hp
  ·
   exact hq
 refine (Any.strings_IndexAny_long Tryz.lays153 zeroAS (by kernel_rfl) s ⟨#[p, q]⟩ w (Nat.le_refl 2) h8 hs (by show 2 < _; decide) hasc).mono fun e w' ⟨he, hw⟩ => ⟨_, he, ⟨?_⟩, ?_⟩
 ·
  rw [indexAny_iff]
  simp
 ·
  rw [hw]
  exact ((Below.refl _ _).alloc (Nat.le_refl _) _).alloc (by simp) _
theorem indexAny_any (s : ByteArray) (p q : UInt8) (hp : p.toNat < 128) (hq : q.toNat < 128) (w : World) (hs : s.size < 4294967281) :
  Calls Tryz.prog 172 #[.string s, .string ⟨#[p, q]⟩] w (IdxAny s.data.toList p q w) := by
 by_cases h8 : s.size ≤ 8
 ·
  exact indexAny_short s p q hp hq w h8
 ·
  exact indexAny_long s p q hp hq w (by omega) hs
def hasDot (l : List UInt8) : Bool := l.any fun b => b == 46 || b == 42
def strings_ContainsAny.f (a0 a1 : ByteArray) : Option Bool := if a1 = ⟨#[46, 42]⟩ ∧ a0.size < 4294967281 then some (hasDot a0.data.toList) else none
theorem strings_ContainsAny.calls (a0 a1 : ByteArray) (r : Bool) (w : World) (_hG : WI w) (h : strings_ContainsAny.f a0 a1 = some r) :
  Calls Tryz.prog 101 #[.string a0, .string a1] w fun e w' => e = .returned (.bool r) ∧ Below w.heap.size w w' := by
 clear _hG
 unfold strings_ContainsAny.f at h
 split at h
 case isFalse => cases h
 case isTrue hc =>
  obtain ⟨rfl, hs⟩ := hc
  obtain rfl := Option.some.inj h
  have HC := Amk (indexAny_any a0 46 42 (by decide) (by decide) w hs)
  clear hs h
  go_enter Tryz.func101, Tryz.ntmps101
  go_wp2_with (go_at_call 172; refine HC.out.mono ?_; rintro e w2 ⟨i, rfl, HI, hb⟩)
  go_ret
  refine ⟨?_, hb⟩
  have : decide (0 ≤ i) = hasDot a0.data.toList := by
   rw [Bool.eq_iff_iff, decide_eq_true_iff, HI.out]
   simp only [hasDot, List.any_eq_true, Bool.or_eq_true, beq_iff_eq]
  rw [← this]
  rfl
end Go.Proofs.YtednegmjjjdinaaGreatDoor.Ext
namespace Go.Proofs.YtednegmjjjdinaaGreatDoor.Ext
open Go.RowKit Go.Proofs.YtednegmjjjdinaaGreatDoorW.PrintWords Go.Proofs.YtednegmjjjdinaaGreatDoorW.PrintLast Go.Proofs.YtednegmjjjdinaaGreatDoorW.PrintMore
set_option linter.unusedVariables false
set_option linter.unusedSimpArgs false
def Stop (t : TypeId) : List PanicEntry := [{ v := .iface t (.agg #[]), recovered := false }]
theorem unless_yes (w : World) : Calls Tryz.prog 96 #[.bool true] w fun e w' => e = .returned (.tuple #[]) ∧ w' = w := by
 go_enter Tryz.func96, Tryz.ntmps96
 go_wp2
 go_end0
 exact ⟨rfl, rfl⟩
theorem unless_no (w : World) : Calls Tryz.prog 96 #[.bool false] w fun e w' => e = .panicked (Stop 140) ∧ w' = w := by
 go_enter Tryz.func96, Tryz.ntmps96
 go_wp2
 exact ⟨rfl, rfl, rfl⟩
def RdAt (w0 W : World) (g : Nat) (l : List UInt8) : Prop := W.heap[g]? = some (.cells #[.string ⟨l.toArray⟩] 146 (0, 0)) ∧ w0.heap.size ≤ g
def RPost (w0 w : World) (g : Nat) (o : Option (Value × List UInt8)) (e : Ending) (w' : World) : Prop :=
 match o with
 | some (v, l) => e = .returned v ∧ RdAt w0 w' g l ∧ Below w0.heap.size w0 w' ∧ KeepBut w w' g none
 | none => e = .panicked (Stop 140) ∧ Below w0.heap.size w0 w' ∧ KeepBut w w' g none
theorem take_ext (l : List UInt8) (n : Nat) : (⟨l.toArray⟩ : ByteArray).extract 0 n = ⟨(l.take n).toArray⟩ := by
 apply ByteArray.ext; apply Array.ext'
 simp
theorem drop_ext (l : List UInt8) (n : Nat) : (⟨l.toArray⟩ : ByteArray).extract n l.length = ⟨(l.drop n).toArray⟩ := by
 apply ByteArray.ext; apply Array.ext'
 simp [List.take_of_length_le]
theorem size_l (l : List UInt8) : (⟨l.toArray⟩ : ByteArray).size = l.length := by simp [ByteArray.size]
theorem take_calls (g n : Nat) (l : List UInt8) (w0 w : World) (hI : RdAt w0 w g l) (hB : Below w0.heap.size w0 w) :
  Calls Tryz.prog 166 #[.pointer (some ⟨g, 0, none⟩), .int .i64 (n : Int)] w (RPost w0 w g (if n ≤ l.length then some (.string ⟨(l.take n).toArray⟩, l.drop n) else none)) := by
 obtain ⟨hb, hg⟩ := hI
 have hc : w.cell? ⟨g, 0, none⟩ = some (.string ⟨l.toArray⟩) := by simp [World.cell?, hb]
 have hz := blk_frozen hb 0
 have hs := size_l l
 by_cases h : n ≤ l.length
 ·
  rw [if_pos h]
  have h1 : decide ((n : Int) ≤ (l.length : Int)) = true := decide_eq_true (by omega)
  go_enter Tryz.func166, Tryz.ntmps166
  go_wp2_with (go_at_call 96; refine (unless_yes _).mono ?_; rintro e w2 ⟨rfl, rfl⟩)
  go_ret
  rw [take_ext, drop_ext]
  exact ⟨rfl, ⟨by simpa using blk_set hb 0 (.string ⟨(l.drop n).toArray⟩), hg⟩, below_set hB hg, KeepBut.set_ (KeepBut.refl w2 g none) _ _⟩
 ·
  rw [if_neg h]
  have h1 : decide ((n : Int) ≤ (l.length : Int)) = false := decide_eq_false (by omega)
  go_enter Tryz.func166, Tryz.ntmps166
  go_wp2_with (go_at_call 96; refine (unless_no _).mono ?_; rintro e w2 ⟨rfl, rfl⟩)
  exact ⟨rfl, rfl, hB, KeepBut.refl w2 g none⟩
def byteF : List UInt8 → Option (Nat × List UInt8)
 | b :: l => some (b.toNat, l)
 | [] => none
def shortF (l : List UInt8) : Option (Nat × List UInt8) := (byteF l).bind fun (a, l) => (byteF l).bind fun (b, l) => some (a * 256 + b, l)
def textF (l : List UInt8) : Option (List UInt8 × List UInt8) := (shortF l).bind fun (n, l) => if n ≤ l.length then some (l.take n, l.drop n) else none
def idF (l : List UInt8) : Option (Nat × List UInt8) := (shortF l).bind fun (n, l) => if 0 < n then some (n, l) else none
def numV (o : Option (Nat × List UInt8)) : Option (Value × List UInt8) := o.map fun (n, l) => (.int .i64 (n : Int), l)
def textV (o : Option (List UInt8 × List UInt8)) : Option (Value × List UInt8) := o.map fun (t, l) => (.string ⟨t.toArray⟩, l)
theorem RPost.some_ {w0 w w' : World} {g : Nat} {v : Value} {l : List UInt8} {e : Ending} (h : RPost w0 w g (some (v, l)) e w') : e = .returned v ∧ Aside0 (RdAt w0 w' g l) ∧ Aside0 (Below w0.heap.size w0 w') ∧ Aside0 (KeepBut w w' g none) := ⟨h.1, ⟨h.2.1⟩, ⟨h.2.2.1⟩, ⟨h.2.2.2⟩⟩
theorem RPost.none_ {w0 w w' : World} {g : Nat} {e : Ending} (h : RPost w0 w g none e w') : e = .panicked (Stop 140) ∧ Aside0 (Below w0.heap.size w0 w') ∧ Aside0 (KeepBut w w' g none) := ⟨h.1, ⟨h.2.1⟩, ⟨h.2.2⟩⟩
theorem wrap_byte (b : UInt8) : wrap64 (b.toNat : Int) = b.toNat := by have := b.toNat_lt; unfold wrap64; omega
theorem byte_calls (g : Nat) (l : List UInt8) (w0 w : World) (hI : RdAt w0 w g l) (hB : Below w0.heap.size w0 w) :
  Calls Tryz.prog 163 #[.pointer (some ⟨g, 0, none⟩)] w (RPost w0 w g (numV (byteF l))) := by
 have HT := Amk (take_calls g 1 l w0 w hI hB)
 clear hI
 cases l with
 | nil =>
  have HT2 : Aside0 (Calls Tryz.prog 166 #[.pointer (some ⟨g, 0, none⟩), .int .i64 1] w (RPost w0 w g none)) := ⟨HT.out⟩
  clear HT
  go_enter Tryz.func163, Tryz.ntmps163
  go_wp2_with (go_at_call 166; refine HT2.out.mono ?_; rintro e w2 hp; obtain ⟨rfl, hb2, hk⟩ := hp.none_; clear hp)
  exact ⟨rfl, rfl, hb2.out, hk.out⟩
 | cons b l =>
  have HT2 : Aside0 (Calls Tryz.prog 166 #[.pointer (some ⟨g, 0, none⟩), .int .i64 1] w (RPost w0 w g (some (.string ⟨#[b]⟩, l)))) := ⟨HT.out⟩
  clear HT
  go_enter Tryz.func163, Tryz.ntmps163
  go_wp2_with (go_at_call 166; refine HT2.out.mono ?_; rintro e w2 hp; obtain ⟨rfl, hr2, hb2, hk⟩ := hp.some_; clear hp)
  go_ret
  refine ⟨?_, hr2.out, hb2.out, hk.out⟩
  show Ending.returned (Value.int .i64 (wrap64 (b.toNat : Int))) = _
  rw [wrap_byte]
theorem or_256 (a b : Nat) (_ha : a < 256) (hb : b < 256) : bits .or .i64 ((a : Int) * 256) (b : Int) = ((a * 256 + b : Nat) : Int) := by
 rw [bits_join .i64 63 (by decide) (fun n h0 h1 => by rw [IntKind.wrap_i64]; omega) 8 _ _ (by omega) (by omega) (by omega) (by omega) (by omega) (by omega)]
 omega
theorem byteF_lt {l l' : List UInt8} {n : Nat} (h : byteF l = some (n, l')) : n < 256 := by
 cases l with
 | nil => cases h
 | cons b l => simp only [byteF, Option.some.injEq, Prod.mk.injEq] at h; rw [← h.1]; exact b.toNat_lt
theorem short_calls (g : Nat) (l : List UInt8) (w0 w : World) (hI : RdAt w0 w g l) (hB : Below w0.heap.size w0 w) :
  Calls Tryz.prog 232 #[.pointer (some ⟨g, 0, none⟩)] w (RPost w0 w g (numV (shortF l))) := by
 have HT := Amk (byte_calls g l w0 w hI hB)
 clear hI hB
 unfold shortF
 cases h1 : byteF l with
 | none =>
  rw [h1] at HT
  go_enter Tryz.func232, Tryz.ntmps232
  go_wp2_with (go_at_call 163; refine HT.out.mono ?_; rintro e w2 hp; obtain ⟨rfl, hb2, hk⟩ := hp.none_; clear hp)
  exact ⟨rfl, rfl, hb2.out, hk.out⟩
 | some x =>
  obtain ⟨n, l2⟩ := x
  have hn := byteF_lt h1
  rw [h1] at HT
  have HT2 : Aside0 (∀ W, RdAt w0 W g l2 → Below w0.heap.size w0 W → Calls Tryz.prog 163 #[.pointer (some ⟨g, 0, none⟩)] W (RPost w0 W g (numV (byteF l2)))) := ⟨fun W => byte_calls g l2 w0 W⟩
  simp only [Option.bind_some]
  cases h2 : byteF l2 with
  | none =>
   rw [h2] at HT2
   go_enter Tryz.func232, Tryz.ntmps232
   go_wp2_with (go_at_call 163; first | (refine HT.out.mono ?_; rintro e w2 hp; obtain ⟨rfl, hr2, hb2, hk2⟩ := hp.some_; clear hp) | (refine (HT2.out _ hr2.out hb2.out).mono ?_; rintro e w3 hp; obtain ⟨rfl, hb3, hk3⟩ := hp.none_; clear hp))
   exact ⟨rfl, rfl, hb3.out, hk2.out.trans hk3.out (.inl rfl)⟩
  | some y =>
   obtain ⟨m, l3⟩ := y
   have hm := byteF_lt h2
   rw [h2] at HT2
   go_enter Tryz.func232, Tryz.ntmps232
   go_wp2_with (go_at_call 163; first | (refine HT.out.mono ?_; rintro e w2 hp; obtain ⟨rfl, hr2, hb2, hk2⟩ := hp.some_; clear hp) | (refine (HT2.out _ hr2.out hb2.out).mono ?_; rintro e w3 hp; obtain ⟨rfl, hr3, hb3, hk3⟩ := hp.some_; clear hp))
   go_ret
   refine ⟨?_, hr3.out, hb3.out, hk2.out.trans hk3.out (.inl rfl)⟩
   show Ending.returned (Value.int .i64 (bits .or .i64 ((n : Int) * 256) (m : Int))) = .returned (.int .i64 ((n * 256 + m : Nat) : Int))
   rw [or_256 n m hn hm]
theorem shortF_lt {l l' : List UInt8} {n : Nat} (h : shortF l = some (n, l')) : n < 65536 := by
 unfold shortF at h
 cases h1 : byteF l with
 | none => rw [h1] at h; cases h
 | some x =>
  obtain ⟨a, l2⟩ := x
  have ha := byteF_lt h1
  simp only [h1, Option.bind_some] at h
  cases h2 : byteF l2 with
  | none => rw [h2] at h; cases h
  | some y =>
   obtain ⟨b, l3⟩ := y
   have hb := byteF_lt h2
   simp only [h2, Option.bind_some] at h
   simp only [Option.some.injEq, Prod.mk.injEq] at h
   omega
theorem text_calls (g : Nat) (l : List UInt8) (w0 w : World) (hI : RdAt w0 w g l) (hB : Below w0.heap.size w0 w) :
  Calls Tryz.prog 164 #[.pointer (some ⟨g, 0, none⟩)] w (RPost w0 w g (textV (textF l))) := by
 have HT := Amk (short_calls g l w0 w hI hB)
 clear hI hB
 unfold textF
 cases h1 : shortF l with
 | none =>
  rw [h1] at HT
  go_enter Tryz.func164, Tryz.ntmps164
  go_wp2_with (go_at_call 232; refine HT.out.mono ?_; rintro e w2 hp; obtain ⟨rfl, hb2, hk⟩ := hp.none_; clear hp)
  exact ⟨rfl, rfl, hb2.out, hk.out⟩
 | some x =>
  obtain ⟨n, l2⟩ := x
  rw [h1] at HT
  have HT2 : Aside0 (∀ W, RdAt w0 W g l2 → Below w0.heap.size w0 W → Calls Tryz.prog 166 #[.pointer (some ⟨g, 0, none⟩), .int .i64 (n : Int)] W (RPost w0 W g (if n ≤ l2.length then some (.string ⟨(l2.take n).toArray⟩, l2.drop n) else none))) := ⟨fun W => take_calls g n l2 w0 W⟩
  simp only [Option.bind_some]
  by_cases h2 : n ≤ l2.length
  ·
   simp only [h2, if_true] at HT2 ⊢
   go_enter Tryz.func164, Tryz.ntmps164
   go_wp2_with (first | (go_at_call 232; refine HT.out.mono ?_; rintro e w2 hp; obtain ⟨rfl, hr2, hb2, hk2⟩ := hp.some_; clear hp) | (go_at_call 166; refine (HT2.out _ hr2.out hb2.out).mono ?_; rintro e w3 hp; obtain ⟨rfl, hr3, hb3, hk3⟩ := hp.some_; clear hp))
   go_ret
   exact ⟨rfl, hr3.out, hb3.out, hk2.out.trans hk3.out (.inl rfl)⟩
  ·
   simp only [h2, if_false] at HT2 ⊢
   go_enter Tryz.func164, Tryz.ntmps164
   go_wp2_with (first | (go_at_call 232; refine HT.out.mono ?_; rintro e w2 hp; obtain ⟨rfl, hr2, hb2, hk2⟩ := hp.some_; clear hp) | (go_at_call 166; refine (HT2.out _ hr2.out hb2.out).mono ?_; rintro e w3 hp; obtain ⟨rfl, hb3, hk3⟩ := hp.none_; clear hp))
   exact ⟨rfl, rfl, hb3.out, hk2.out.trans hk3.out (.inl rfl)⟩
theorem id_calls (g : Nat) (l : List UInt8) (w0 w : World) (hI : RdAt w0 w g l) (hB : Below w0.heap.size w0 w) :
  Calls Tryz.prog 165 #[.pointer (some ⟨g, 0, none⟩)] w (RPost w0 w g (numV (idF l))) := by
 have HT := Amk (short_calls g l w0 w hI hB)
 clear hI hB
 unfold idF
 cases h1 : shortF l with
 | none =>
  rw [h1] at HT
  go_enter Tryz.func165, Tryz.ntmps165
  go_wp2_with (go_at_call 232; refine HT.out.mono ?_; rintro e w2 hp; obtain ⟨rfl, hb2, hk⟩ := hp.none_; clear hp)
  exact ⟨rfl, rfl, hb2.out, hk.out⟩
 | some x =>
  obtain ⟨n, l2⟩ := x
  rw [h1] at HT
  simp only [Option.bind_some]
  by_cases h2 : 0 < n
  ·
   have h3 : decide (0 < n) = true := decide_eq_true (by omega)
   simp only [h2, if_true]
   clear h2
   go_enter Tryz.func165, Tryz.ntmps165
   go_wp2_with (first | (go_at_call 232; refine HT.out.mono ?_; rintro e w2 hp; obtain ⟨rfl, hr2, hb2, hk2⟩ := hp.some_; clear hp) | (go_at_call 96; refine (unless_yes _).mono ?_; rintro e w3 ⟨rfl, rfl⟩))
   go_ret
   exact ⟨rfl, hr2.out, hb2.out, hk2.out⟩
  ·
   have h3 : decide (0 < n) = false := decide_eq_false (by omega)
   simp only [h2, if_false]
   clear h2
   go_enter Tryz.func165, Tryz.ntmps165
   go_wp2_with (first | (go_at_call 232; refine HT.out.mono ?_; rintro e w2 hp; obtain ⟨rfl, hr2, hb2, hk2⟩ := hp.some_; clear hp) | (go_at_call 96; refine (unless_no _).mono ?_; rintro e w3 ⟨rfl, rfl⟩))
   exact ⟨rfl, rfl, hb2.out, hk2.out⟩
theorem and127 (b : UInt8) : bits .and .u8 (b.toNat : Int) 127 = ((b.toNat % 128 : Nat) : Int) := by
  have := b.toNat_lt
  rw [show (127 : Int) = 2 ^ 7 - 1 by decide, bits_mask .u8 8 (by decide) wraps_u8 7 (by decide) _ (by omega) (by omega)]
  omega
theorem and128 (b : UInt8) : bits .and .u8 (b.toNat : Int) 128 = if b.toNat < 128 then 0 else 128 := by
  have : ∀ x : Fin 256, bits .and .u8 ((UInt8.ofNat x.val).toNat : Int) 128 = if (UInt8.ofNat x.val).toNat < 128 then 0 else 128 := by decide +kernel
  have k := this ⟨b.toNat, b.toNat_lt⟩
  simpa only [UInt8.ofNat_toNat] using k
theorem low7 (b : UInt8) : ∃ m : Int, bits .and .u8 (b.toNat : Int) 127 = m ∧ wrap64 m = m ∧ bits .or .i64 0 m = m ∧ 0 ≤ m ∧ m < 128 ∧ m = (b.toNat % 128 : Nat) := by
  refine ⟨_, and127 b, ?_, ?_, by omega, by omega, rfl⟩
  · unfold wrap64; omega
  · rw [bits_join .i64 63 (by decide) (fun n h0 h1 => by rw [IntKind.wrap_i64]; omega) 7 _ _ (by omega) (by omega) (by omega) (by omega) (by omega) (by omega)]
    omega
theorem or_up (i : Nat) (y x : Int) (hi : i ≤ 30) (h0 : 0 ≤ y ∧ 0 ≤ x) (h1 : y < 2 ^ i) (h2 : x % 2 ^ i = 0) (h3 : x < 2 ^ 40) : ∃ p : Int, bits .or .i64 y x = p ∧ p = y + x := by
  refine ⟨_, ?_, rfl⟩
  obtain ⟨a, rfl⟩ := Int.eq_ofNat_of_zero_le h0.1
  obtain ⟨b, rfl⟩ := Int.eq_ofNat_of_zero_le h0.2
  have hw : ∀ n : Int, 0 ≤ n → n < 2 ^ 63 → IntKind.i64.wrap n = n := fun n h0 h1 => by rw [IntKind.wrap_i64]; omega
  have hp : (2 : Int) ^ i ≤ 2 ^ 30 := by exact_mod_cast Nat.pow_le_pow_right (by decide) hi
  have ha : a < 2 ^ 63 := by have : (a : Int) < 2 ^ 63 := by omega
                             exact_mod_cast this
  have hb : b < 2 ^ 63 := by have : (b : Int) < 2 ^ 63 := by omega
                             exact_mod_cast this
  rw [(bits_nat .i64 63 (by decide) hw a b ha hb).2, Nat.or_comm, ← (bits_nat .i64 63 (by decide) hw b a hb ha).2]
  rw [bits_join .i64 63 (by decide) hw i _ _ h0.2 h2 (by omega) h0.1 h1 (by omega)]
  omega
theorem len0 (w : World) :
    Calls Tryz.prog 98 #[.string ⟨(([] : List UInt8)).toArray⟩] w fun e w' => e = .returned (.tuple #[.int .i64 0, .int .i64 0]) ∧ w' = w := by
  have hs := size_l (([] : List UInt8))
  simp only [List.length_cons, List.length_nil] at hs
  go_enter Tryz.func98, Tryz.ntmps98
  go_wp2_with fail
  refine wp_loop_rounds 1 ?_
  rw [rounds_succ]
  go_wp2_with (go_at_call 96; first | (refine (unless_yes _).mono ?_; rintro e w2 ⟨rfl, rfl⟩) | (refine (unless_no _).mono ?_; rintro e w2 ⟨rfl, rfl⟩))
  go_ret2
  exact ⟨rfl, rfl⟩
theorem len1 (b0 : UInt8) (r : List UInt8) (k0 : b0.toNat < 128) (w : World) :
    Calls Tryz.prog 98 #[.string ⟨(b0 :: r).toArray⟩] w fun e w' => e = .returned (.tuple #[.int .i64 (b0.toNat : Int), .int .i64 1]) ∧ w' = w := by
  obtain ⟨m0, a0, wr0, z0, lo0, hi0, hm0⟩ := low7 b0
  have t0 := and128 b0
  rw [if_pos k0] at t0
  have hs := size_l (b0 :: r)
  simp only [List.length_cons, List.length_nil] at hs
  have e0 : ∀ h : 0 < (⟨(b0 :: r).toArray⟩ : ByteArray).size, (⟨(b0 :: r).toArray⟩ : ByteArray)[0]'h = b0 := fun _ => rfl
  have c0 : (m0 ≤ 16384) = True := eq_true (by omega)
  have hv : (b0.toNat : Int) = m0 := by omega
  rw [hv]
  clear hv
  clear hm0
  go_enter Tryz.func98, Tryz.ntmps98
  go_wp2_with fail
  refine wp_loop_rounds 1 ?_
  rw [rounds_succ]
  go_wp2_with (go_at_call 96; first | (refine (unless_yes _).mono ?_; rintro e w2 ⟨rfl, rfl⟩) | (refine (unless_no _).mono ?_; rintro e w2 ⟨rfl, rfl⟩))
  go_ret2
  exact ⟨rfl, rfl⟩
theorem len1e (b0 : UInt8) (k0 : ¬ b0.toNat < 128) (w : World) :
    Calls Tryz.prog 98 #[.string ⟨([b0]).toArray⟩] w fun e w' => e = .returned (.tuple #[.int .i64 0, .int .i64 0]) ∧ w' = w := by
  obtain ⟨m0, a0, wr0, z0, lo0, hi0, hm0⟩ := low7 b0
  have t0 := and128 b0
  rw [if_neg k0] at t0
  have hs := size_l ([b0])
  simp only [List.length_cons, List.length_nil] at hs
  have e0 : ∀ h : 0 < (⟨([b0]).toArray⟩ : ByteArray).size, (⟨([b0]).toArray⟩ : ByteArray)[0]'h = b0 := fun _ => rfl
  have c0 : (m0 ≤ 16384) = True := eq_true (by omega)
  clear hm0
  go_enter Tryz.func98, Tryz.ntmps98
  go_wp2_with fail
  refine wp_loop_rounds 2 ?_
  rw [rounds_succ]
  go_wp2_with (go_at_call 96; first | (refine (unless_yes _).mono ?_; rintro e w2 ⟨rfl, rfl⟩) | (refine (unless_no _).mono ?_; rintro e w2 ⟨rfl, rfl⟩))
  rw [rounds_succ]
  go_wp2_with (go_at_call 96; first | (refine (unless_yes _).mono ?_; rintro e w2 ⟨rfl, rfl⟩) | (refine (unless_no _).mono ?_; rintro e w2 ⟨rfl, rfl⟩))
  go_ret2
  exact ⟨rfl, rfl⟩
theorem len2 (b0 b1 : UInt8) (r : List UInt8) (k0 : ¬ b0.toNat < 128) (k1 : b1.toNat < 128) (hz : ¬ b1 = 0) (w : World) :
    Calls Tryz.prog 98 #[.string ⟨(b0 :: b1 :: r).toArray⟩] w fun e w' => e = .returned (.tuple #[.int .i64 ((b0.toNat % 128 + b1.toNat * 128 : Nat) : Int), .int .i64 2]) ∧ w' = w := by
  obtain ⟨m0, a0, wr0, z0, lo0, hi0, hm0⟩ := low7 b0
  have t0 := and128 b0
  rw [if_neg k0] at t0
  obtain ⟨m1, a1, wr1, z1, lo1, hi1, hm1⟩ := low7 b1
  have t1 := and128 b1
  rw [if_pos k1] at t1
  have hs := size_l (b0 :: b1 :: r)
  simp only [List.length_cons, List.length_nil] at hs
  have e0 : ∀ h : 0 < (⟨(b0 :: b1 :: r).toArray⟩ : ByteArray).size, (⟨(b0 :: b1 :: r).toArray⟩ : ByteArray)[0]'h = b0 := fun _ => rfl
  have e1 : ∀ h : 1 < (⟨(b0 :: b1 :: r).toArray⟩ : ByteArray).size, (⟨(b0 :: b1 :: r).toArray⟩ : ByteArray)[1]'h = b1 := fun _ => rfl
  have c0 : (m0 ≤ 16384) = True := eq_true (by omega)
  obtain ⟨p1, o1, hp1⟩ := or_up 7 m0 (m1 * 128) (by decide) (by omega) (by omega) (by omega) (by omega)
  have c1 : (p1 ≤ 16384) = True := eq_true (by omega)
  have ez : ((b1.toNat : Int) == 0) = false := by simpa [← UInt8.toNat_inj] using hz
  have ez2 : ((b1.toNat : Int) != 0) = true := by rw [bne, ez]; rfl
  have ez3 : (b1.toNat = 0) = False := by exact eq_false (fun e => hz (UInt8.toNat_inj.1 e))
  have hv : ((b0.toNat % 128 + b1.toNat * 128 : Nat) : Int) = p1 := by omega
  rw [hv]
  clear hv
  clear hm0 hm1 hp1 hz
  go_enter Tryz.func98, Tryz.ntmps98
  go_wp2_with fail
  refine wp_loop_rounds 2 ?_
  rw [rounds_succ]
  go_wp2_with (go_at_call 96; first | (refine (unless_yes _).mono ?_; rintro e w2 ⟨rfl, rfl⟩) | (refine (unless_no _).mono ?_; rintro e w2 ⟨rfl, rfl⟩))
  rw [rounds_succ]
  go_wp2_with (go_at_call 96; first | (refine (unless_yes _).mono ?_; rintro e w2 ⟨rfl, rfl⟩) | (refine (unless_no _).mono ?_; rintro e w2 ⟨rfl, rfl⟩))
  go_ret2
  exact ⟨rfl, rfl⟩
theorem len2z (b0 b1 : UInt8) (r : List UInt8) (k0 : ¬ b0.toNat < 128) (k1 : b1.toNat < 128) (hz : b1 = 0) (w : World) :
    Calls Tryz.prog 98 #[.string ⟨(b0 :: b1 :: r).toArray⟩] w fun e w' => e = .panicked (Stop 140) ∧ w' = w := by
  obtain ⟨m0, a0, wr0, z0, lo0, hi0, hm0⟩ := low7 b0
  have t0 := and128 b0
  rw [if_neg k0] at t0
  obtain ⟨m1, a1, wr1, z1, lo1, hi1, hm1⟩ := low7 b1
  have t1 := and128 b1
  rw [if_pos k1] at t1
  have hs := size_l (b0 :: b1 :: r)
  simp only [List.length_cons, List.length_nil] at hs
  have e0 : ∀ h : 0 < (⟨(b0 :: b1 :: r).toArray⟩ : ByteArray).size, (⟨(b0 :: b1 :: r).toArray⟩ : ByteArray)[0]'h = b0 := fun _ => rfl
  have e1 : ∀ h : 1 < (⟨(b0 :: b1 :: r).toArray⟩ : ByteArray).size, (⟨(b0 :: b1 :: r).toArray⟩ : ByteArray)[1]'h = b1 := fun _ => rfl
  have hzz : b1.toNat = 0 := by rw [hz]; rfl
  have c0 : (m0 ≤ 16384) = True := eq_true (by omega)
  obtain ⟨p1, o1, hp1⟩ := or_up 7 m0 (m1 * 128) (by decide) (by omega) (by omega) (by omega) (by omega)
  have c1 : (p1 ≤ 16384) = True := eq_true (by omega)
  have ez : ((b1.toNat : Int) == 0) = true := by rw [hz]; rfl
  have ez2 : ((b1.toNat : Int) != 0) = false := by rw [bne, ez]; rfl
  have ez3 : (b1.toNat = 0) = True := by rw [hz]; exact eq_true rfl
  clear hm0 hm1 hp1 hz hzz
  go_enter Tryz.func98, Tryz.ntmps98
  go_wp2_with fail
  refine wp_loop_rounds 2 ?_
  rw [rounds_succ]
  go_wp2_with (go_at_call 96; first | (refine (unless_yes _).mono ?_; rintro e w2 ⟨rfl, rfl⟩) | (refine (unless_no _).mono ?_; rintro e w2 ⟨rfl, rfl⟩))
  rw [rounds_succ]
  go_wp2_with (go_at_call 96; first | (refine (unless_yes _).mono ?_; rintro e w2 ⟨rfl, rfl⟩) | (refine (unless_no _).mono ?_; rintro e w2 ⟨rfl, rfl⟩))
  exact ⟨rfl, rfl, rfl⟩
theorem len2e (b0 b1 : UInt8) (k0 : ¬ b0.toNat < 128) (k1 : ¬ b1.toNat < 128) (w : World) :
    Calls Tryz.prog 98 #[.string ⟨([b0, b1]).toArray⟩] w fun e w' => e = .returned (.tuple #[.int .i64 0, .int .i64 0]) ∧ w' = w := by
  obtain ⟨m0, a0, wr0, z0, lo0, hi0, hm0⟩ := low7 b0
  have t0 := and128 b0
  rw [if_neg k0] at t0
  obtain ⟨m1, a1, wr1, z1, lo1, hi1, hm1⟩ := low7 b1
  have t1 := and128 b1
  rw [if_neg k1] at t1
  have hs := size_l ([b0, b1])
  simp only [List.length_cons, List.length_nil] at hs
  have e0 : ∀ h : 0 < (⟨([b0, b1]).toArray⟩ : ByteArray).size, (⟨([b0, b1]).toArray⟩ : ByteArray)[0]'h = b0 := fun _ => rfl
  have e1 : ∀ h : 1 < (⟨([b0, b1]).toArray⟩ : ByteArray).size, (⟨([b0, b1]).toArray⟩ : ByteArray)[1]'h = b1 := fun _ => rfl
  have c0 : (m0 ≤ 16384) = True := eq_true (by omega)
  obtain ⟨p1, o1, hp1⟩ := or_up 7 m0 (m1 * 128) (by decide) (by omega) (by omega) (by omega) (by omega)
  have c1 : (p1 ≤ 16384) = True := eq_true (by omega)
  clear hm0 hm1 hp1
  go_enter Tryz.func98, Tryz.ntmps98
  go_wp2_with fail
  refine wp_loop_rounds 3 ?_
  rw [rounds_succ]
  go_wp2_with (go_at_call 96; first | (refine (unless_yes _).mono ?_; rintro e w2 ⟨rfl, rfl⟩) | (refine (unless_no _).mono ?_; rintro e w2 ⟨rfl, rfl⟩))
  rw [rounds_succ]
  go_wp2_with (go_at_call 96; first | (refine (unless_yes _).mono ?_; rintro e w2 ⟨rfl, rfl⟩) | (refine (unless_no _).mono ?_; rintro e w2 ⟨rfl, rfl⟩))
  rw [rounds_succ]
  go_wp2_with (go_at_call 96; first | (refine (unless_yes _).mono ?_; rintro e w2 ⟨rfl, rfl⟩) | (refine (unless_no _).mono ?_; rintro e w2 ⟨rfl, rfl⟩))
  go_ret2
  exact ⟨rfl, rfl⟩
theorem len3 (b0 b1 b2 : UInt8) (r : List UInt8) (k0 : ¬ b0.toNat < 128) (k1 : ¬ b1.toNat < 128) (k2 : b2.toNat < 128) (hz : ¬ b2 = 0) (hn : b0.toNat % 128 + b1.toNat % 128 * 128 + b2.toNat % 128 * 16384 ≤ 16384) (w : World) :
    Calls Tryz.prog 98 #[.string ⟨(b0 :: b1 :: b2 :: r).toArray⟩] w fun e w' => e = .returned (.tuple #[.int .i64 ((b0.toNat % 128 + b1.toNat % 128 * 128 + b2.toNat % 128 * 16384 : Nat) : Int), .int .i64 3]) ∧ w' = w := by
  obtain ⟨m0, a0, wr0, z0, lo0, hi0, hm0⟩ := low7 b0
  have t0 := and128 b0
  rw [if_neg k0] at t0
  obtain ⟨m1, a1, wr1, z1, lo1, hi1, hm1⟩ := low7 b1
  have t1 := and128 b1
  rw [if_neg k1] at t1
  obtain ⟨m2, a2, wr2, z2, lo2, hi2, hm2⟩ := low7 b2
  have t2 := and128 b2
  rw [if_pos k2] at t2
  have hs := size_l (b0 :: b1 :: b2 :: r)
  simp only [List.length_cons, List.length_nil] at hs
  have e0 : ∀ h : 0 < (⟨(b0 :: b1 :: b2 :: r).toArray⟩ : ByteArray).size, (⟨(b0 :: b1 :: b2 :: r).toArray⟩ : ByteArray)[0]'h = b0 := fun _ => rfl
  have e1 : ∀ h : 1 < (⟨(b0 :: b1 :: b2 :: r).toArray⟩ : ByteArray).size, (⟨(b0 :: b1 :: b2 :: r).toArray⟩ : ByteArray)[1]'h = b1 := fun _ => rfl
  have e2 : ∀ h : 2 < (⟨(b0 :: b1 :: b2 :: r).toArray⟩ : ByteArray).size, (⟨(b0 :: b1 :: b2 :: r).toArray⟩ : ByteArray)[2]'h = b2 := fun _ => rfl
  have c0 : (m0 ≤ 16384) = True := eq_true (by omega)
  obtain ⟨p1, o1, hp1⟩ := or_up 7 m0 (m1 * 128) (by decide) (by omega) (by omega) (by omega) (by omega)
  have c1 : (p1 ≤ 16384) = True := eq_true (by omega)
  obtain ⟨p2, o2, hp2⟩ := or_up 14 p1 (m2 * 16384) (by decide) (by omega) (by omega) (by omega) (by omega)
  have c2 : (p2 ≤ 16384) = True := eq_true (by omega)
  have ez : ((b2.toNat : Int) == 0) = false := by simpa [← UInt8.toNat_inj] using hz
  have ez2 : ((b2.toNat : Int) != 0) = true := by rw [bne, ez]; rfl
  have ez3 : (b2.toNat = 0) = False := by exact eq_false (fun e => hz (UInt8.toNat_inj.1 e))
  have hv : ((b0.toNat % 128 + b1.toNat % 128 * 128 + b2.toNat % 128 * 16384 : Nat) : Int) = p2 := by omega
  rw [hv]
  clear hv
  clear hm0 hm1 hm2 hp1 hp2 hz hn
  go_enter Tryz.func98, Tryz.ntmps98
  go_wp2_with fail
  refine wp_loop_rounds 3 ?_
  rw [rounds_succ]
  go_wp2_with (go_at_call 96; first | (refine (unless_yes _).mono ?_; rintro e w2 ⟨rfl, rfl⟩) | (refine (unless_no _).mono ?_; rintro e w2 ⟨rfl, rfl⟩))
  rw [rounds_succ]
  go_wp2_with (go_at_call 96; first | (refine (unless_yes _).mono ?_; rintro e w2 ⟨rfl, rfl⟩) | (refine (unless_no _).mono ?_; rintro e w2 ⟨rfl, rfl⟩))
  rw [rounds_succ]
  go_wp2_with (go_at_call 96; first | (refine (unless_yes _).mono ?_; rintro e w2 ⟨rfl, rfl⟩) | (refine (unless_no _).mono ?_; rintro e w2 ⟨rfl, rfl⟩))
  go_ret2
  exact ⟨rfl, rfl⟩
theorem len3z (b0 b1 b2 : UInt8) (r : List UInt8) (k0 : ¬ b0.toNat < 128) (k1 : ¬ b1.toNat < 128) (k2 : b2.toNat < 128) (hz : b2 = 0) (w : World) :
    Calls Tryz.prog 98 #[.string ⟨(b0 :: b1 :: b2 :: r).toArray⟩] w fun e w' => e = .panicked (Stop 140) ∧ w' = w := by
  obtain ⟨m0, a0, wr0, z0, lo0, hi0, hm0⟩ := low7 b0
  have t0 := and128 b0
  rw [if_neg k0] at t0
  obtain ⟨m1, a1, wr1, z1, lo1, hi1, hm1⟩ := low7 b1
  have t1 := and128 b1
  rw [if_neg k1] at t1
  obtain ⟨m2, a2, wr2, z2, lo2, hi2, hm2⟩ := low7 b2
  have t2 := and128 b2
  rw [if_pos k2] at t2
  have hs := size_l (b0 :: b1 :: b2 :: r)
  simp only [List.length_cons, List.length_nil] at hs
  have e0 : ∀ h : 0 < (⟨(b0 :: b1 :: b2 :: r).toArray⟩ : ByteArray).size, (⟨(b0 :: b1 :: b2 :: r).toArray⟩ : ByteArray)[0]'h = b0 := fun _ => rfl
  have e1 : ∀ h : 1 < (⟨(b0 :: b1 :: b2 :: r).toArray⟩ : ByteArray).size, (⟨(b0 :: b1 :: b2 :: r).toArray⟩ : ByteArray)[1]'h = b1 := fun _ => rfl
  have e2 : ∀ h : 2 < (⟨(b0 :: b1 :: b2 :: r).toArray⟩ : ByteArray).size, (⟨(b0 :: b1 :: b2 :: r).toArray⟩ : ByteArray)[2]'h = b2 := fun _ => rfl
  have hzz : b2.toNat = 0 := by rw [hz]; rfl
  have c0 : (m0 ≤ 16384) = True := eq_true (by omega)
  obtain ⟨p1, o1, hp1⟩ := or_up 7 m0 (m1 * 128) (by decide) (by omega) (by omega) (by omega) (by omega)
  have c1 : (p1 ≤ 16384) = True := eq_true (by omega)
  obtain ⟨p2, o2, hp2⟩ := or_up 14 p1 (m2 * 16384) (by decide) (by omega) (by omega) (by omega) (by omega)
  have c2 : (p2 ≤ 16384) = True := eq_true (by omega)
  have ez : ((b2.toNat : Int) == 0) = true := by rw [hz]; rfl
  have ez2 : ((b2.toNat : Int) != 0) = false := by rw [bne, ez]; rfl
  have ez3 : (b2.toNat = 0) = True := by rw [hz]; exact eq_true rfl
  clear hm0 hm1 hm2 hp1 hp2 hz hzz
  go_enter Tryz.func98, Tryz.ntmps98
  go_wp2_with fail
  refine wp_loop_rounds 3 ?_
  rw [rounds_succ]
  go_wp2_with (go_at_call 96; first | (refine (unless_yes _).mono ?_; rintro e w2 ⟨rfl, rfl⟩) | (refine (unless_no _).mono ?_; rintro e w2 ⟨rfl, rfl⟩))
  rw [rounds_succ]
  go_wp2_with (go_at_call 96; first | (refine (unless_yes _).mono ?_; rintro e w2 ⟨rfl, rfl⟩) | (refine (unless_no _).mono ?_; rintro e w2 ⟨rfl, rfl⟩))
  rw [rounds_succ]
  go_wp2_with (go_at_call 96; first | (refine (unless_yes _).mono ?_; rintro e w2 ⟨rfl, rfl⟩) | (refine (unless_no _).mono ?_; rintro e w2 ⟨rfl, rfl⟩))
  exact ⟨rfl, rfl, rfl⟩
theorem len3t (b0 b1 b2 : UInt8) (r : List UInt8) (k0 : ¬ b0.toNat < 128) (k1 : ¬ b1.toNat < 128) (k2 : ¬ b2.toNat < 128) (hn : b0.toNat % 128 + b1.toNat % 128 * 128 + b2.toNat % 128 * 16384 ≤ 16384) (w : World) :
    Calls Tryz.prog 98 #[.string ⟨(b0 :: b1 :: b2 :: r).toArray⟩] w fun e w' => e = .panicked (Stop 140) ∧ w' = w := by
  obtain ⟨m0, a0, wr0, z0, lo0, hi0, hm0⟩ := low7 b0
  have t0 := and128 b0
  rw [if_neg k0] at t0
  obtain ⟨m1, a1, wr1, z1, lo1, hi1, hm1⟩ := low7 b1
  have t1 := and128 b1
  rw [if_neg k1] at t1
  obtain ⟨m2, a2, wr2, z2, lo2, hi2, hm2⟩ := low7 b2
  have t2 := and128 b2
  rw [if_neg k2] at t2
  have hs := size_l (b0 :: b1 :: b2 :: r)
  simp only [List.length_cons, List.length_nil] at hs
  have e0 : ∀ h : 0 < (⟨(b0 :: b1 :: b2 :: r).toArray⟩ : ByteArray).size, (⟨(b0 :: b1 :: b2 :: r).toArray⟩ : ByteArray)[0]'h = b0 := fun _ => rfl
  have e1 : ∀ h : 1 < (⟨(b0 :: b1 :: b2 :: r).toArray⟩ : ByteArray).size, (⟨(b0 :: b1 :: b2 :: r).toArray⟩ : ByteArray)[1]'h = b1 := fun _ => rfl
  have e2 : ∀ h : 2 < (⟨(b0 :: b1 :: b2 :: r).toArray⟩ : ByteArray).size, (⟨(b0 :: b1 :: b2 :: r).toArray⟩ : ByteArray)[2]'h = b2 := fun _ => rfl
  have c0 : (m0 ≤ 16384) = True := eq_true (by omega)
  obtain ⟨p1, o1, hp1⟩ := or_up 7 m0 (m1 * 128) (by decide) (by omega) (by omega) (by omega) (by omega)
  have c1 : (p1 ≤ 16384) = True := eq_true (by omega)
  obtain ⟨p2, o2, hp2⟩ := or_up 14 p1 (m2 * 16384) (by decide) (by omega) (by omega) (by omega) (by omega)
  have c2 : (p2 ≤ 16384) = True := eq_true (by omega)
  clear hm0 hm1 hm2 hp1 hp2 hn
  go_enter Tryz.func98, Tryz.ntmps98
  go_wp2_with fail
  refine wp_loop_rounds 3 ?_
  rw [rounds_succ]
  go_wp2_with (go_at_call 96; first | (refine (unless_yes _).mono ?_; rintro e w2 ⟨rfl, rfl⟩) | (refine (unless_no _).mono ?_; rintro e w2 ⟨rfl, rfl⟩))
  rw [rounds_succ]
  go_wp2_with (go_at_call 96; first | (refine (unless_yes _).mono ?_; rintro e w2 ⟨rfl, rfl⟩) | (refine (unless_no _).mono ?_; rintro e w2 ⟨rfl, rfl⟩))
  rw [rounds_succ]
  go_wp2_with (go_at_call 96; first | (refine (unless_yes _).mono ?_; rintro e w2 ⟨rfl, rfl⟩) | (refine (unless_no _).mono ?_; rintro e w2 ⟨rfl, rfl⟩))
  exact ⟨rfl, rfl, rfl⟩
theorem len3n (b0 b1 b2 : UInt8) (r : List UInt8) (k0 : ¬ b0.toNat < 128) (k1 : ¬ b1.toNat < 128) (hn : ¬ b0.toNat % 128 + b1.toNat % 128 * 128 + b2.toNat % 128 * 16384 ≤ 16384) (w : World) :
    Calls Tryz.prog 98 #[.string ⟨(b0 :: b1 :: b2 :: r).toArray⟩] w fun e w' => e = .panicked (Stop 140) ∧ w' = w := by
  obtain ⟨m0, a0, wr0, z0, lo0, hi0, hm0⟩ := low7 b0
  have t0 := and128 b0
  rw [if_neg k0] at t0
  obtain ⟨m1, a1, wr1, z1, lo1, hi1, hm1⟩ := low7 b1
  have t1 := and128 b1
  rw [if_neg k1] at t1
  obtain ⟨m2, a2, wr2, z2, lo2, hi2, hm2⟩ := low7 b2
  have t2 := and128 b2
  have hs := size_l (b0 :: b1 :: b2 :: r)
  simp only [List.length_cons, List.length_nil] at hs
  have e0 : ∀ h : 0 < (⟨(b0 :: b1 :: b2 :: r).toArray⟩ : ByteArray).size, (⟨(b0 :: b1 :: b2 :: r).toArray⟩ : ByteArray)[0]'h = b0 := fun _ => rfl
  have e1 : ∀ h : 1 < (⟨(b0 :: b1 :: b2 :: r).toArray⟩ : ByteArray).size, (⟨(b0 :: b1 :: b2 :: r).toArray⟩ : ByteArray)[1]'h = b1 := fun _ => rfl
  have e2 : ∀ h : 2 < (⟨(b0 :: b1 :: b2 :: r).toArray⟩ : ByteArray).size, (⟨(b0 :: b1 :: b2 :: r).toArray⟩ : ByteArray)[2]'h = b2 := fun _ => rfl
  have c0 : (m0 ≤ 16384) = True := eq_true (by omega)
  obtain ⟨p1, o1, hp1⟩ := or_up 7 m0 (m1 * 128) (by decide) (by omega) (by omega) (by omega) (by omega)
  have c1 : (p1 ≤ 16384) = True := eq_true (by omega)
  obtain ⟨p2, o2, hp2⟩ := or_up 14 p1 (m2 * 16384) (by decide) (by omega) (by omega) (by omega) (by omega)
  have c2 : (p2 ≤ 16384) = False := eq_false (by omega)
  clear hm0 hm1 hm2 hp1 hp2 hn
  go_enter Tryz.func98, Tryz.ntmps98
  go_wp2_with fail
  refine wp_loop_rounds 3 ?_
  rw [rounds_succ]
  go_wp2_with (go_at_call 96; first | (refine (unless_yes _).mono ?_; rintro e w2 ⟨rfl, rfl⟩) | (refine (unless_no _).mono ?_; rintro e w2 ⟨rfl, rfl⟩))
  rw [rounds_succ]
  go_wp2_with (go_at_call 96; first | (refine (unless_yes _).mono ?_; rintro e w2 ⟨rfl, rfl⟩) | (refine (unless_no _).mono ?_; rintro e w2 ⟨rfl, rfl⟩))
  rw [rounds_succ]
  go_wp2_with (go_at_call 96; first | (refine (unless_yes _).mono ?_; rintro e w2 ⟨rfl, rfl⟩) | (refine (unless_no _).mono ?_; rintro e w2 ⟨rfl, rfl⟩))
  exact ⟨rfl, rfl, rfl⟩
def lenF : List UInt8 → Option (Nat × Nat)
  | [] => some (0, 0)
  | b0 :: r =>
    if b0.toNat < 128 then some (b0.toNat, 1) else
    match r with
    | [] => some (0, 0)
    | b1 :: r =>
      if b1.toNat < 128 then (if b1 = 0 then none else some (b0.toNat % 128 + b1.toNat * 128, 2)) else
      match r with
      | [] => some (0, 0)
      | b2 :: _ =>
        if b0.toNat % 128 + b1.toNat % 128 * 128 + b2.toNat % 128 * 16384 ≤ 16384 ∧ b2.toNat < 128 then
          (if b2 = 0 then none else some (b0.toNat % 128 + b1.toNat % 128 * 128 + b2.toNat % 128 * 16384, 3)) else none
def LPost (w : World) (o : Option (Nat × Nat)) (e : Ending) (w' : World) : Prop :=
  match o with
  | some (n, k) => e = .returned (.tuple #[.int .i64 (n : Int), .int .i64 (k : Int)]) ∧ w' = w
  | none => e = .panicked (Stop 140) ∧ w' = w
theorem length_calls (l : List UInt8) (w : World) : Calls Tryz.prog 98 #[.string ⟨l.toArray⟩] w (LPost w (lenF l)) := by
  cases l with
  | nil => exact len0 w
  | cons b0 r =>
    simp only [lenF]
    by_cases k0 : b0.toNat < 128
    · simp only [k0, if_true]; exact len1 b0 r k0 w
    simp only [k0, if_false]
    cases r with
    | nil => exact len1e b0 k0 w
    | cons b1 r =>
      by_cases k1 : b1.toNat < 128
      · simp only [k1, if_true]
        by_cases hz : b1 = 0
        · rw [if_pos hz]; exact len2z b0 b1 r k0 k1 hz w
        · rw [if_neg hz]; exact len2 b0 b1 r k0 k1 hz w
      simp only [k1, if_false]
      cases r with
      | nil => exact len2e b0 b1 k0 k1 w
      | cons b2 r =>
        by_cases hn : b0.toNat % 128 + b1.toNat % 128 * 128 + b2.toNat % 128 * 16384 ≤ 16384
        · by_cases k2 : b2.toNat < 128
          · simp only [hn, k2, and_self, if_true]
            by_cases hz : b2 = 0
            · rw [if_pos hz]; exact len3z b0 b1 b2 r k0 k1 k2 hz w
            · rw [if_neg hz]; exact len3 b0 b1 b2 r k0 k1 k2 hz hn w
          · simp only [k2, and_false, if_false]; exact len3t b0 b1 b2 r k0 k1 k2 hn w
        · simp only [hn, false_and, if_false]; exact len3n b0 b1 b2 r k0 k1 hn w
structure Pk where
 kind : Int
 flags : Int
 id : Int
 code : Int
 name : List UInt8
 text : List UInt8
 keep : Int
 will : Bool
 topic : List UInt8
 clean : Bool
 names : Value
 codes : Value
def Pk.cells (p : Pk) : Array Value := #[.int .i64 p.kind, .int .i64 p.flags, .int .i64 p.id, .int .i64 p.code, .string ⟨p.name.toArray⟩, .string ⟨p.text.toArray⟩, .int .i64 p.keep, .bool p.will, .string ⟨p.topic.toArray⟩, .bool p.clean, p.names, p.codes]
def PkAt (w0 W : World) (h : Nat) (p : Pk) : Prop := W.heap[h]? = some (.cells p.cells 86 (0, 0)) ∧ w0.heap.size ≤ h
theorem PkAt.keep {w0 W W' : World} {h g : Nat} {p : Pk} (a : PkAt w0 W h p) (k : KeepBut W W' g none) (hne : h ≠ g) : PkAt w0 W' h p :=
 ⟨(k.2 h (blk_lt a.1) hne (by simp)).trans a.1, a.2⟩
theorem RdAt.far {w0 W : World} {h g j : Nat} {l : List UInt8} (a : RdAt w0 W g l) (hne : g ≠ h) (u : Value) : RdAt w0 (W.setCell ⟨h, j, none⟩ u) g l := ⟨blk_far a.1 hne u, a.2⟩
theorem PkAt.cell {w0 W : World} {h : Nat} {p : Pk} (a : PkAt w0 W h p) (j : Nat) : W.cell? ⟨h, j, none⟩ = p.cells[j]? := blk_cell a.1 j
theorem PkAt.frozen {w0 W : World} {h : Nat} {p : Pk} (a : PkAt w0 W h p) (j : Nat) : W.frozen? ⟨h, j, none⟩ = false := blk_frozen a.1 j
theorem PkAt.set {w0 W : World} {h : Nat} {p q : Pk} (a : PkAt w0 W h p) (j : Nat) (v : Value) (hq : p.cells.setIfInBounds j v = q.cells) : PkAt w0 (W.setCell ⟨h, j, none⟩ v) h q := ⟨by rw [← hq]; exact blk_set a.1 j v, a.2⟩
abbrev GH (g h : Nat) : Nat → Prop := fun k => k = g ∨ k = h
def connectF (p : Pk) (l : List UInt8) : Option (Pk × List UInt8) :=
 match textF l with
 | none => none
 | some (t, l) => if t = [77, 81, 84, 84] then
  match byteF l with
  | none => none
  | some (v, l) => if v = 4 then
   match byteF l with
   | none => none
   | some (c, l) => if c % 2 = 0 ∧ c < 64 ∧ c / 8 % 4 ≠ 3 ∧ (c / 4 % 2 = 1 ∨ c < 8) then
    match shortF l with
    | none => none
    | some (k, l) => match textF l with
     | none => none
     | some (n, l) => if c / 4 % 2 = 1 then
      match textF l with
      | none => none
      | some (tp, l) => match textF l with
       | none => none
       | some (tx, l) => if tx.length ≤ 1024 then some ({ p with code := c, will := true, clean := decide (c / 2 % 2 = 1), keep := k, name := n, topic := tp, text := tx }, l) else none
      else some ({ p with code := c, will := false, clean := decide (c / 2 % 2 = 1), keep := k, name := n }, l)
    else none
   else none
  else none
def CPost (w0 w : World) (g h : Nat) (o : Option (Pk × List UInt8)) (e : Ending) (w' : World) : Prop :=
 match o with
 | some (q, l) => e = .returned (.tuple #[]) ∧ RdAt w0 w' g l ∧ PkAt w0 w' h q ∧ Below w0.heap.size w0 w' ∧ Kept w w' (GH g h)
 | none => e = .panicked (Stop 140) ∧ Below w0.heap.size w0 w' ∧ Kept w w' (GH g h) ∧ ∃ q, PkAt w0 w' h q
theorem GH.keep {w W W2 : World} {g h : Nat} (a : Kept w W (GH g h)) (k : KeepBut W W2 g none) : Kept w W2 (GH g h) := a.of_keep k (.inl (.inl rfl))
theorem CPost.no {w0 w w' : World} {g h : Nat} {o : Option (Pk × List UInt8)} {P : Prop} {e : Ending} (ho : o = none) (hp : P ∧ e = .panicked (Stop 140) ∧ Below w0.heap.size w0 w' ∧ Kept w w' (GH g h) ∧ ∃ q, PkAt w0 w' h q) : P ∧ CPost w0 w g h o e w' := by
 subst ho; exact hp
theorem CPost.yes {w0 w w' : World} {g h : Nat} {o : Option (Pk × List UInt8)} {q : Pk} {l : List UInt8} {e : Ending} (ho : o = some (q, l)) (hp : e = .returned (.tuple #[]) ∧ RdAt w0 w' g l ∧ PkAt w0 w' h q ∧ Below w0.heap.size w0 w' ∧ Kept w w' (GH g h)) : CPost w0 w g h o e w' := by
 subst ho; exact hp
theorem set_comm (W : World) (h i j : Nat) (hij : i ≠ j) (u v : Value) : (W.setCell ⟨h, i, none⟩ u).setCell ⟨h, j, none⟩ v = (W.setCell ⟨h, j, none⟩ v).setCell ⟨h, i, none⟩ u := by
 unfold World.setCell
 simp only
 congr 1
 apply Array.ext_getElem?
 intro k
 simp only [Array.getElem?_modify]
 by_cases hk : h = k
 ·
  subst hk
  simp only [if_true]
  cases W.heap[h]? with
  | none => rfl
  | some o => cases o <;> simp [Array.setIfInBounds_comm _ _ hij]
 ·
  simp [hk]
theorem conn_bits (c : Nat) (h : c < 256) : (bits .and .i64 (c : Int) 2 != 0) = decide (c / 2 % 2 = 1) ∧ (bits .and .i64 (c : Int) 4 != 0) = decide (c / 4 % 2 = 1) ∧
  (bits .and .i64 (c : Int) 193 == 0) = decide (c % 2 = 0 ∧ c < 64) ∧ (bits .and .i64 ((c : Int) / 8) 3 != 3) = decide (c / 8 % 4 ≠ 3) ∧ (c < 64 → (bits .and .i64 (c : Int) 56 == 0) = decide (c < 8)) := by
 have : ∀ x : Fin 256, (bits .and .i64 (x.val : Int) 2 != 0) = decide (x.val / 2 % 2 = 1) ∧ (bits .and .i64 (x.val : Int) 4 != 0) = decide (x.val / 4 % 2 = 1) ∧
  (bits .and .i64 (x.val : Int) 193 == 0) = decide (x.val % 2 = 0 ∧ x.val < 64) ∧ (bits .and .i64 ((x.val : Int) / 8) 3 != 3) = decide (x.val / 8 % 4 ≠ 3) ∧ (x.val < 64 → (bits .and .i64 (x.val : Int) 56 == 0) = decide (x.val < 8)) := by decide +kernel
 exact this ⟨c, h⟩
theorem connect_calls (g h : Nat) (l1 : List UInt8) (p : Pk) (w0 w : World) (hI : RdAt w0 w g l1) (hP : PkAt w0 w h p) (hne : g ≠ h) (hB : Below w0.heap.size w0 w) :
  Calls Tryz.prog 162 #[.pointer (some ⟨g, 0, none⟩), .pointer (some ⟨h, 0, none⟩)] w (CPost w0 w g h (connectF p l1)) := by
 have HT := Amk (text_calls g l1 w0 w hI hB)
 have HP1 := Amk hP
 have HK1 := Amk (Kept.refl w (GH g h))
 clear hI hB hP
 obtain ⟨o, ho⟩ : ∃ o, o = connectF p l1 := ⟨_, rfl⟩
 have HO := Amk ho.symm
 rw [← ho]
 clear ho
 go_enter Tryz.func162, Tryz.ntmps162
 go_wp2_with fail
 go_at_call 164
 refine HT.out.mono ?_
 clear HT
 rintro e w2 hp
 cases hx : textF l1 with
 | none => rw [hx] at hp; obtain ⟨rfl, hb2, hk2⟩ := hp.none_; exact CPost.no (by rw [← HO.out]; simp [connectF, hx]) ⟨rfl, rfl, hb2.out, GH.keep HK1.out hk2.out, _, HP1.out.keep hk2.out (Ne.symm hne)⟩
 | some x =>
  obtain ⟨t, l2⟩ := x; rw [hx] at hp; obtain ⟨rfl, hr2, hb2, hk2⟩ := hp.some_; clear hp; have X2 := Amk hx; clear hx; have HP2 := Amk (HP1.out.keep hk2.out (Ne.symm hne)); clear HP1
  have HK2 := Amk (GH.keep HK1.out hk2.out)
  clear HK1 hk2
  have HT := Amk (byte_calls g l2 w0 w2 hr2.out hb2.out)
  by_cases ht : t = [77, 81, 84, 84]
  case neg =>
   have ht2 : ((⟨t.toArray⟩ : ByteArray).toList == [77, 81, 84, 84]) = false := by rw [Lib.toList_data]; simpa using ht
   go_wp2_with (go_at_call 96; refine (unless_no _).mono ?_; rintro e w3 ⟨rfl, rfl⟩)
   exact CPost.no (by rw [← HO.out]; simp [connectF, X2.out, ht]) ⟨rfl, rfl, hb2.out, HK2.out, _, HP2.out⟩
  subst ht
  go_wp2_with fail
  go_at_call 163
  refine HT.out.mono ?_
  clear HT
  rintro e w3 hp
  cases hx : byteF l2 with
  | none => rw [hx] at hp; obtain ⟨rfl, hb3, hk3⟩ := hp.none_; exact CPost.no (by rw [← HO.out]; simp [connectF, X2.out, hx]) ⟨rfl, rfl, hb3.out, GH.keep HK2.out hk3.out, _, HP2.out.keep hk3.out (Ne.symm hne)⟩
  | some x =>
   obtain ⟨v, l3⟩ := x; rw [hx] at hp; obtain ⟨rfl, hr3, hb3, hk3⟩ := hp.some_; clear hp; have X3 := Amk hx; clear hx; have HP3 := Amk (HP2.out.keep hk3.out (Ne.symm hne)); clear HP2
   have HK3 := Amk (GH.keep HK2.out hk3.out)
   clear HK2 hk3
   have HT := Amk (byte_calls g l3 w0 w3 hr3.out hb3.out)
   by_cases hv : v = 4
   case neg =>
    have hv2 : ((v : Int) == 4) = false := beq_eq_false_iff_ne.2 (by omega)
    go_wp2_with (go_at_call 96; refine (unless_no _).mono ?_; rintro e w4 ⟨rfl, rfl⟩)
    exact CPost.no (by rw [← HO.out]; simp [connectF, X2.out, X3.out, hv]) ⟨rfl, rfl, hb3.out, HK3.out, _, HP3.out⟩
   subst hv
   go_wp2_with (go_at_call 96; refine (unless_yes _).mono ?_; rintro e w4 ⟨rfl, rfl⟩)
   go_at_call 163
   refine HT.out.mono ?_
   clear HT
   rintro e w4 hp
   cases hx : byteF l3 with
   | none => rw [hx] at hp; obtain ⟨rfl, hb4, hk4⟩ := hp.none_; exact CPost.no (by rw [← HO.out]; simp [connectF, X2.out, X3.out, hx]) ⟨rfl, rfl, hb4.out, GH.keep HK3.out hk4.out, _, HP3.out.keep hk4.out (Ne.symm hne)⟩
   | some x =>
    obtain ⟨c, l4⟩ := x; have hc := byteF_lt hx; rw [hx] at hp; obtain ⟨rfl, hr4, hb4, hk4⟩ := hp.some_; clear hp; have X4 := Amk hx; clear hx; have HP4 := Amk (HP3.out.keep hk4.out (Ne.symm hne)); clear HP3
    have HK4 := Amk (GH.keep HK3.out hk4.out)
    clear HK3 hk4
    have c3 : w4.cell? ⟨h, 3, none⟩ = some (.int .i64 p.code) := (HP4.out.cell 3).trans rfl
    have z3 := HP4.out.frozen 3
    obtain ⟨cl, f2, hcl⟩ : ∃ x : Bool, (bits .and .i64 (c : Int) 2 != 0) = x ∧ decide (c / 2 % 2 = 1) = x := ⟨_, rfl, (conn_bits c hc).1.symm⟩
    obtain ⟨wl, f4, hwl⟩ : ∃ x : Bool, (bits .and .i64 (c : Int) 4 != 0) = x ∧ decide (c / 4 % 2 = 1) = x := ⟨_, rfl, (conn_bits c hc).2.1.symm⟩
    obtain ⟨e1, f193, he1⟩ : ∃ x : Bool, (bits .and .i64 (c : Int) 193 == 0) = x ∧ decide (c % 2 = 0 ∧ c < 64) = x := ⟨_, rfl, (conn_bits c hc).2.2.1.symm⟩
    obtain ⟨e2, f3, he2⟩ : ∃ x : Bool, (bits .and .i64 ((c : Int) / 8) 3 != 3) = x ∧ decide (c / 8 % 4 ≠ 3) = x := ⟨_, rfl, (conn_bits c hc).2.2.2.1.symm⟩
    obtain ⟨e3, f56, he3⟩ : ∃ x : Bool, (bits .and .i64 (c : Int) 56 == 0) = x ∧ (c < 64 → decide (c < 8) = x) := ⟨_, rfl, fun h => ((conn_bits c hc).2.2.2.2 h).symm⟩
    have HA := Amk (And.intro hcl (And.intro hwl (And.intro he1 (And.intro he2 he3))))
    clear hcl hwl he1 he2 he3
    have HB5 := Amk (below_set (j := 3) (v := .int .i64 (c : Int)) hb4.out HP4.out.2)
    have HR5 := Amk (hr4.out.far (j := 3) hne (.int .i64 (c : Int)))
    have HP5 := Amk (HP4.out.set (q := { p with code := c }) 3 (.int .i64 (c : Int)) rfl)
    have HK5 := Amk (HK4.out.setCell (p := ⟨h, 3, none⟩) (.inl (.inr rfl)) (.int .i64 (c : Int)))
    go_wp2_with fail
    clear c3 z3 HP4 HK4 hr4 hb4
    generalize w4.setCell ⟨h, 3, none⟩ (.int .i64 (c : Int)) = w5 at *
    have c3 : w5.cell? ⟨h, 3, none⟩ = some (.int .i64 (c : Int)) := (HP5.out.cell 3).trans rfl
    have c7 : w5.cell? ⟨h, 7, none⟩ = some (.bool p.will) := (HP5.out.cell 7).trans rfl
    have c9 : w5.cell? ⟨h, 9, none⟩ = some (.bool p.clean) := (HP5.out.cell 9).trans rfl
    have z7 := HP5.out.frozen 7
    have z9 := HP5.out.frozen 9
    go_cut [] (fun wx => Aside0 (PkAt w0 wx h { p with code := c, will := wl, clean := cl }) ∧ Aside0 (Below w0.heap.size w0 wx) ∧ Aside0 (Kept w wx (GH g h)) ∧ Aside0 (RdAt w0 wx g l4))
    case first =>
     go_region_with (fail)
     all_goals go_wp2_with fail
     all_goals go_meet
     all_goals clear c3 c7 c9 z7 z9
     all_goals (try rw [set_comm w5 h 9 7 (by decide)])
     all_goals exact ⟨⟨(HP5.out.set (q := { p with code := c, will := wl }) 7 (.bool wl) rfl).set 9 (.bool cl) rfl⟩, ⟨bdr (below_set (j := 9) (v := .bool cl) (below_set (j := 7) (v := .bool wl) HB5.out HP5.out.2) HP5.out.2)⟩, ⟨((HK5.out.setCell (p := ⟨h, 7, none⟩) (.inl (.inr rfl)) (.bool wl)).setCell (p := ⟨h, 9, none⟩) (.inl (.inr rfl)) (.bool cl)).drew⟩, ⟨(HR5.out.far (j := 7) hne (.bool wl)).far (j := 9) hne (.bool cl)⟩⟩
    case rest =>
     clear c3 c7 c9 z7 z9 HP5 HB5 HK5 HR5 f2 f4
     obtain ⟨HP6, HB6, HK6, HR6⟩ := hcut
     have c3 : wc.cell? ⟨h, 3, none⟩ = some (.int .i64 (c : Int)) := (HP6.out.cell 3).trans rfl
     have c7 : wc.cell? ⟨h, 7, none⟩ = some (.bool wl) := (HP6.out.cell 7).trans rfl
     go_upto_region 3 with (fail)
     go_cut [] (fun wx => wx = wc ∧ Aside0 (c % 2 = 0 ∧ c < 64 ∧ c / 8 % 4 ≠ 3 ∧ (c / 4 % 2 = 1 ∨ c < 8)))
     case first =>
      cases e1
      all_goals cases e2
      all_goals cases wl
      all_goals cases e3
      all_goals go_wp2_with (go_at_call 96; first | (refine (unless_yes _).mono ?_; rintro e wc ⟨rfl, rfl⟩) | (refine (unless_no _).mono ?_; rintro e wc ⟨rfl, rfl⟩))
      all_goals obtain ⟨hcl, hwl, he1, he2, he3⟩ := HA.out
      all_goals simp only [decide_eq_true_eq, decide_eq_false_iff_not] at hwl he1 he2 he3
      all_goals first
       | exact CPost.no (by
         rw [← HO.out]
         simp only [connectF, X2.out, X3.out, X4.out, if_true]
         rw [if_neg (by omega)]) ⟨rfl, rfl, HB6.out, HK6.out, _, HP6.out⟩
       | (go_meet; exact ⟨rfl, ⟨by omega⟩⟩)
     case rest =>
      obtain ⟨rfl, HC⟩ := hcut
      clear c3 c7 f193 f3 f56
      obtain ⟨hcl, hwl, _⟩ := HA.out
      have HCL := Amk hcl
      have HWL := Amk hwl
      clear hcl hwl HA
      go_wp2_with fail
      have HT := Amk (short_calls g l4 w0 _ HR6.out HB6.out)
      go_at_call 232
      refine HT.out.mono ?_
      clear HT
      rintro e w7 hp
      cases hx : shortF l4 with
      | none => rw [hx] at hp; obtain ⟨rfl, hb7, hk7⟩ := hp.none_; exact CPost.no (by rw [← HO.out]; simp only [connectF, X2.out, X3.out, X4.out, if_true]; rw [if_pos HC.out]; simp only [hx]) ⟨rfl, rfl, hb7.out, GH.keep HK6.out hk7.out, _, HP6.out.keep hk7.out (Ne.symm hne)⟩
      | some x =>
       obtain ⟨k, l7⟩ := x; rw [hx] at hp; obtain ⟨rfl, HR7, HB7, hk7⟩ := hp.some_; clear hp; have X7 := Amk hx; clear hx; have HP7 := Amk (HP6.out.keep hk7.out (Ne.symm hne))
       have HK7 := Amk (GH.keep HK6.out hk7.out)
       clear HP6 HK6 HR6 HB6 hk7
       have zz := HP7.out.frozen 6
       have cc : w7.cell? ⟨h, 6, none⟩ = some (.int .i64 p.keep) := (HP7.out.cell 6).trans rfl
       have HP8 := Amk (HP7.out.set (q := { p with code := c, will := wl, clean := cl, keep := k }) 6 (.int .i64 (k : Int)) rfl)
       have HB8 := Amk (below_set (j := 6) (v := .int .i64 (k : Int)) HB7.out HP7.out.2)
       have HR8 := Amk (HR7.out.far (j := 6) hne (.int .i64 (k : Int)))
       have HK8 := Amk (HK7.out.setCell (p := ⟨h, 6, none⟩) (.inl (.inr rfl)) (.int .i64 (k : Int)))
       go_wp2_with fail
       clear zz cc HP7 HB7 HR7 HK7
       generalize w7.setCell ⟨h, 6, none⟩ (.int .i64 (k : Int)) = w8 at *
       have HT := Amk (text_calls g l7 w0 _ HR8.out HB8.out)
       go_at_call 164
       refine HT.out.mono ?_
       clear HT
       rintro e w9 hp
       cases hx : textF l7 with
       | none => rw [hx] at hp; obtain ⟨rfl, hb9, hk9⟩ := hp.none_; exact CPost.no (by rw [← HO.out]; simp only [connectF, X2.out, X3.out, X4.out, if_true]; rw [if_pos HC.out]; simp only [X7.out, hx]) ⟨rfl, rfl, hb9.out, GH.keep HK8.out hk9.out, _, HP8.out.keep hk9.out (Ne.symm hne)⟩
       | some x =>
        obtain ⟨n, l9⟩ := x; rw [hx] at hp; obtain ⟨rfl, HR9, HB9, hk9⟩ := hp.some_; clear hp; have X9 := Amk hx; clear hx; have HP9 := Amk (HP8.out.keep hk9.out (Ne.symm hne))
        have HK9 := Amk (GH.keep HK8.out hk9.out)
        clear HP8 HK8 HR8 HB8 hk9
        have zz := HP9.out.frozen 4
        have cc : w9.cell? ⟨h, 4, none⟩ = some (.string ⟨p.name.toArray⟩) := (HP9.out.cell 4).trans rfl
        have HP10 := Amk (HP9.out.set (q := { p with code := c, will := wl, clean := cl, keep := k, name := n }) 4 (.string ⟨n.toArray⟩) rfl)
        have HB10 := Amk (below_set (j := 4) (v := .string ⟨n.toArray⟩) HB9.out HP9.out.2)
        have HR10 := Amk (HR9.out.far (j := 4) hne (.string ⟨n.toArray⟩))
        have HK10 := Amk (HK9.out.setCell (p := ⟨h, 4, none⟩) (.inl (.inr rfl)) (.string ⟨n.toArray⟩))
        have c7 : w9.cell? ⟨h, 7, none⟩ = some (.bool wl) := (HP9.out.cell 7).trans rfl
        cases wl
        case false =>
         go_wp2_with fail
         go_end0
         exact CPost.yes (q := { p with code := c, will := false, clean := cl, keep := k, name := n }) (l := l9) (by rw [← HO.out]; simp only [connectF, X2.out, X3.out, X4.out, if_true]; rw [if_pos HC.out]; simp only [X7.out, X9.out]; rw [if_neg (of_decide_eq_false HWL.out), HCL.out]) ⟨rfl, HR10.out, HP10.out, HB10.out, HK10.out⟩
        case true =>
         have HW := Amk (of_decide_eq_true HWL.out)
         go_wp2_with fail
         clear zz cc c7 HP9 HB9 HR9 HK9
         generalize w9.setCell ⟨h, 4, none⟩ (.string ⟨n.toArray⟩) = w10 at *
         have HT := Amk (text_calls g l9 w0 _ HR10.out HB10.out)
         go_at_call 164
         refine HT.out.mono ?_
         clear HT
         rintro e w11 hp
         cases hx : textF l9 with
         | none => rw [hx] at hp; obtain ⟨rfl, hb11, hk11⟩ := hp.none_; exact CPost.no (by rw [← HO.out]; simp only [connectF, X2.out, X3.out, X4.out, if_true]; rw [if_pos HC.out]; simp only [X7.out, X9.out, if_pos HW.out, hx]) ⟨rfl, rfl, hb11.out, GH.keep HK10.out hk11.out, _, HP10.out.keep hk11.out (Ne.symm hne)⟩
         | some x =>
          obtain ⟨tp, l11⟩ := x; rw [hx] at hp; obtain ⟨rfl, HR11, HB11, hk11⟩ := hp.some_; clear hp; have X11 := Amk hx; clear hx; have HP11 := Amk (HP10.out.keep hk11.out (Ne.symm hne))
          have HK11 := Amk (GH.keep HK10.out hk11.out)
          clear HP10 HK10 HR10 HB10 hk11
          go_wp2_with fail
          have HT := Amk (text_calls g l11 w0 _ HR11.out HB11.out)
          go_at_call 164
          refine HT.out.mono ?_
          clear HT
          rintro e w12 hp
          cases hx : textF l11 with
          | none => rw [hx] at hp; obtain ⟨rfl, hb12, hk12⟩ := hp.none_; exact CPost.no (by rw [← HO.out]; simp only [connectF, X2.out, X3.out, X4.out, if_true]; rw [if_pos HC.out]; simp only [X7.out, X9.out, if_pos HW.out, X11.out, hx]) ⟨rfl, rfl, hb12.out, GH.keep HK11.out hk12.out, _, HP11.out.keep hk12.out (Ne.symm hne)⟩
          | some x =>
           obtain ⟨tx, l12⟩ := x; rw [hx] at hp; obtain ⟨rfl, HR12, HB12, hk12⟩ := hp.some_; clear hp; have X12 := Amk hx; clear hx; have HP12 := Amk (HP11.out.keep hk12.out (Ne.symm hne))
           have HK12 := Amk (GH.keep HK11.out hk12.out)
           clear HP11 HK11 HR11 HB11 hk12
           have z8 := HP12.out.frozen 8
           have z5 := HP12.out.frozen 5
           have c8 : w12.cell? ⟨h, 8, none⟩ = some (.string ⟨p.topic.toArray⟩) := (HP12.out.cell 8).trans rfl
           have c5 : w12.cell? ⟨h, 5, none⟩ = some (.string ⟨p.text.toArray⟩) := (HP12.out.cell 5).trans rfl
           have hsz := size_l tx
           by_cases hlen : tx.length ≤ 1024
           ·
            have hd : decide ((tx.length : Int) ≤ 1024) = true := decide_eq_true (by omega)
            have hd2 : decide (tx.length ≤ 1024) = true := decide_eq_true hlen
            have HL := Amk hlen
            clear hlen
            go_wp2_with (go_at_call 96; refine (unless_yes _).mono ?_; rintro e w13 ⟨rfl, rfl⟩)
            go_end0
            exact CPost.yes (q := { p with code := c, will := true, clean := cl, keep := k, name := n, topic := tp, text := tx }) (l := l12) (by rw [← HO.out]; simp only [connectF, X2.out, X3.out, X4.out, if_true]; rw [if_pos HC.out]; simp only [X7.out, X9.out, if_pos HW.out, X11.out, X12.out]; rw [if_pos HL.out, HCL.out]) ⟨rfl, (HR12.out.far (j := 8) hne (.string ⟨tp.toArray⟩)).far (j := 5) hne (.string ⟨tx.toArray⟩), (HP12.out.set (q := { p with code := c, will := true, clean := cl, keep := k, name := n, topic := tp }) 8 (.string ⟨tp.toArray⟩) rfl).set 5 (.string ⟨tx.toArray⟩) rfl, below_set (j := 5) (v := .string ⟨tx.toArray⟩) (below_set (j := 8) (v := .string ⟨tp.toArray⟩) HB12.out HP12.out.2) HP12.out.2, (HK12.out.setCell (p := ⟨h, 8, none⟩) (.inl (.inr rfl)) (.string ⟨tp.toArray⟩)).setCell (p := ⟨h, 5, none⟩) (.inl (.inr rfl)) (.string ⟨tx.toArray⟩)⟩
           ·
            have hd : decide ((tx.length : Int) ≤ 1024) = false := decide_eq_false (by omega)
            have hd2 : decide (tx.length ≤ 1024) = false := decide_eq_false hlen
            have HL := Amk hlen
            clear hlen
            go_wp2_with (go_at_call 96; refine (unless_no _).mono ?_; rintro e w13 ⟨rfl, rfl⟩)
            exact CPost.no (by rw [← HO.out]; simp only [connectF, X2.out, X3.out, X4.out, if_true]; rw [if_pos HC.out]; simp only [X7.out, X9.out, if_pos HW.out, X11.out, X12.out]; rw [if_neg HL.out]) ⟨rfl, rfl, below_set (j := 5) (v := .string ⟨tx.toArray⟩) (below_set (j := 8) (v := .string ⟨tp.toArray⟩) HB12.out HP12.out.2) HP12.out.2, (HK12.out.setCell (p := ⟨h, 8, none⟩) (.inl (.inr rfl)) (.string ⟨tp.toArray⟩)).setCell (p := ⟨h, 5, none⟩) (.inl (.inr rfl)) (.string ⟨tx.toArray⟩), _, (HP12.out.set (q := { p with code := c, will := true, clean := cl, keep := k, name := n, topic := tp }) 8 (.string ⟨tp.toArray⟩) rfl).set (q := { p with code := c, will := true, clean := cl, keep := k, name := n, topic := tp, text := tx }) 5 (.string ⟨tx.toArray⟩) rfl⟩
theorem tkH {P : Program} {md : Region.Mode} {ops : Array Oper} {Q : Exit → Act → World → Prop} {S : World → Prop} {oi : Oper} {fuel : Nat} {listed : Array Bool} {a : Act} {w : World} (i : Nat) (v : Value) (hS : S w) (hy : ∀ w_, S w_ → (execOp a.eval oi).run P w_ = .ok (.value v) w_)
  (h : wpAnyH P md ops Q S fuel (listed.setIfInBounds i true) (a.put oi.dst v) w) (hi : ops[i]? = some oi := by rfl) (hs : Region.noSelect ops = true := by kernel_rfl) (hf : Region.free md ops listed i = true := by kernel_rfl) (hr : (Region.ready md ops listed).contains i = true := by kernel_rfl)
  (hQ : ∀ c a w, Q (.panic c) (a.put oi.dst v) w → Q (.panic c) a w := by exact fun _ _ _ h => h) (hw : Region.wanted oi (yielded ops a.tmps) = true := by kernel_rfl) : wpAnyH P md ops Q S (fuel + 1) listed a w :=
 wpAnyH_take hi hs hf hr hQ (Or.inl ⟨hw, hy⟩) hS h
structure St (w0 w : World) (g h b : Nat) (p : Pk) (l : List UInt8) (wx : World) : Prop where
 rd : RdAt w0 wx g l
 pk : PkAt w0 wx h p
 bx : wx.heap[b]? = some (.cells #[.pointer (some ⟨h, 0, none⟩)] 148 (0, 0))
 bel : Below w0.heap.size w0 wx
 kept : Kept w wx (GH g h)
 gh : g ≠ h
 hb : h ≠ b
 gb : g ≠ b
 wb : w.heap.size ≤ b
namespace St
variable {w0 w wx : World} {g h b : Nat} {p : Pk} {l : List UInt8}
theorem box (s : St w0 w g h b p l wx) : wx.cell? ⟨b, 0, none⟩ = some (.pointer (some ⟨h, 0, none⟩)) := (blk_cell s.bx 0).trans rfl
theorem cell (s : St w0 w g h b p l wx) (j : Nat) : wx.cell? ⟨h, j, none⟩ = p.cells[j]? := s.pk.cell j
theorem frozen (s : St w0 w g h b p l wx) (j : Nat) : wx.frozen? ⟨h, j, none⟩ = false := s.pk.frozen j
theorem str (s : St w0 w g h b p l wx) : wx.cell? ⟨g, 0, none⟩ = some (.string ⟨l.toArray⟩) := (blk_cell s.rd.1 0).trans rfl
theorem read {w2 : World} {l2 : List UInt8} (s : St w0 w g h b p l wx) (hr : RdAt w0 w2 g l2) (hb2 : Below w0.heap.size w0 w2) (hk : KeepBut wx w2 g none) : St w0 w g h b p l2 w2 :=
 ⟨hr, s.pk.keep hk (Ne.symm s.gh), (hk.2 b (blk_lt s.bx) (Ne.symm s.gb) (by simp)).trans s.bx, hb2, GH.keep s.kept hk, s.gh, s.hb, s.gb, s.wb⟩
theorem set (s : St w0 w g h b p l wx) {q : Pk} (j : Nat) (v : Value) (hq : p.cells.setIfInBounds j v = q.cells) : St w0 w g h b q l (wx.setCell ⟨h, j, none⟩ v) :=
 ⟨s.rd.far s.gh v, s.pk.set j v hq, blk_far s.bx (Ne.symm s.hb) v, below_set s.bel s.pk.2, s.kept.setCell (.inl (.inr rfl)) v, s.gh, s.hb, s.gb, s.wb⟩
theorem drew (s : St w0 w g h b p l wx) : St w0 w g h b p l wx.drew := ⟨s.rd, s.pk, s.bx, s.bel.drew, s.kept, s.gh, s.hb, s.gb, s.wb⟩
theorem alloc (s : St w0 w g h b p l wx) (o : Obj) : St w0 w g h b p l (wx.alloc o) :=
 ⟨⟨blk_alloc s.rd.1 o, s.rd.2⟩, ⟨blk_alloc s.pk.1 o, s.pk.2⟩, blk_alloc s.bx o, bal s.bel o, s.kept.alloc o, s.gh, s.hb, s.gb, s.wb⟩
end St
theorem St.new {w0 w : World} {g h : Nat} {p : Pk} {l : List UInt8} (hI : RdAt w0 w g l) (hP : PkAt w0 w h p) (hne : g ≠ h) (hB : Below w0.heap.size w0 w) :
  St w0 w g h w.heap.size p l (w.alloc (.cells #[.pointer (some ⟨h, 0, none⟩)] 148)) :=
 ⟨⟨blk_alloc hI.1 _, hI.2⟩, ⟨blk_alloc hP.1 _, hP.2⟩, by simpa using heap_alloc_new w _, bal hB _, (Kept.refl w _).alloc _, hne, Nat.ne_of_lt (blk_lt hP.1), Nat.ne_of_lt (blk_lt hI.1), Nat.le_refl _⟩
def endF (p : Pk) (l : List UInt8) : Option (Pk × List UInt8) := if l = [] then some (p, []) else none
theorem St.yes {w0 w wx : World} {g h b : Nat} {p : Pk} {o : Option (Pk × List UInt8)} (s : St w0 w g h b p [] wx) (ho : o = endF p []) : CPost w0 w g h o (.returned (.tuple #[])) wx :=
 CPost.yes (ho.trans rfl) ⟨rfl, s.rd, s.pk, s.bel, s.kept⟩
theorem St.no {w0 w wx : World} {g h b : Nat} {p : Pk} {l : List UInt8} {o : Option (Pk × List UInt8)} {P : Prop} (s : St w0 w g h b p l wx) (hp : P) (ho : o = none) : P ∧ CPost w0 w g h o (.panicked (Stop 140)) wx :=
 CPost.no ho ⟨hp, rfl, s.bel, s.kept, _, s.pk⟩
theorem body_bare (g h : Nat) (l : List UInt8) (p : Pk) (w0 w : World) (hI : RdAt w0 w g l) (hP : PkAt w0 w h p) (hne : g ≠ h) (hB : Below w0.heap.size w0 w) (hk : p.kind = 12 ∨ p.kind = 13 ∨ p.kind = 14) :
  Calls Tryz.prog 99 #[.pointer (some ⟨g, 0, none⟩), .pointer (some ⟨h, 0, none⟩)] w (CPost w0 w g h (endF p l)) := by
 have HS := Amk (St.new hI hP hne hB)
 clear hI hB hP hne
 obtain ⟨o, ho⟩ : ∃ o, o = endF p l := ⟨_, rfl⟩
 have HO := Amk ho
 rw [← ho]
 clear ho
 obtain ⟨k, hkk⟩ : ∃ k, k = p.kind := ⟨_, rfl⟩
 rw [← hkk] at hk
 have cb := HS.out.box
 have c0 : (w.alloc (.cells #[.pointer (some ⟨h, 0, none⟩)] 148)).cell? ⟨h, 0, none⟩ = some (.int .i64 k) := (HS.out.cell 0).trans (by rw [hkk]; rfl)
 have cg := HS.out.str
 clear hkk
 cases l with
 | nil =>
  go_enter Tryz.func99, Tryz.ntmps99
  rcases hk with rfl | rfl | rfl
  all_goals go_wp2_with (go_at_call 96; refine (unless_yes _).mono ?_; rintro e wz ⟨rfl, rfl⟩)
  all_goals go_end0
  all_goals exact HS.out.yes HO.out
 | cons x l =>
  have hl : (x :: l).isEmpty = false := rfl
  go_enter Tryz.func99, Tryz.ntmps99
  rcases hk with rfl | rfl | rfl
  all_goals go_wp2_with (go_at_call 96; refine (unless_no _).mono ?_; rintro e wz ⟨rfl, rfl⟩)
  all_goals exact HS.out.no rfl (HO.out.trans (by simp [endF]))
theorem body_id (g h : Nat) (l : List UInt8) (p : Pk) (w0 w : World) (hI : RdAt w0 w g l) (hP : PkAt w0 w h p) (hne : g ≠ h) (hB : Below w0.heap.size w0 w) (hk : p.kind = 4 ∨ p.kind = 5 ∨ p.kind = 6 ∨ p.kind = 7 ∨ p.kind = 11) :
  Calls Tryz.prog 99 #[.pointer (some ⟨g, 0, none⟩), .pointer (some ⟨h, 0, none⟩)] w (CPost w0 w g h ((idF l).bind fun (n, l) => endF { p with id := n } l)) := by
 have HS := Amk (St.new hI hP hne hB)
 clear hI hB hP hne
 obtain ⟨o, ho⟩ : ∃ o, o = ((idF l).bind fun (n, l) => endF { p with id := n } l) := ⟨_, rfl⟩
 have HO := Amk ho
 rw [← ho]
 clear ho
 obtain ⟨k, hkk⟩ : ∃ k, k = p.kind := ⟨_, rfl⟩
 rw [← hkk] at hk
 have cb := HS.out.box
 have c0 : (w.alloc (.cells #[.pointer (some ⟨h, 0, none⟩)] 148)).cell? ⟨h, 0, none⟩ = some (.int .i64 k) := (HS.out.cell 0).trans (by rw [hkk]; rfl)
 clear hkk
 go_enter Tryz.func99, Tryz.ntmps99
 cases hx : idF l with
 | none =>
  have HT : Aside0 (∀ W, RdAt w0 W g l → Below w0.heap.size w0 W → Calls Tryz.prog 165 #[.pointer (some ⟨g, 0, none⟩)] W (RPost w0 W g none)) := ⟨fun W h1 h2 => by have := id_calls g l w0 W h1 h2; rw [hx] at this; exact this⟩
  rcases hk with rfl | rfl | rfl | rfl | rfl
  all_goals (
   go_upto_region 18 with (fail)
   refine wp_region_any (by kernel_rfl) ?_
   change wpAny _ _ _ _ _ _ _ (World.drew _)
   refine wpAny_take (i := 1) (v := ?_) rfl (by kernel_rfl) (by kernel_rfl) (by kernel_rfl) (fun _ _ _ h => h) (Or.inl ⟨by rfl, ?_⟩) ?_
   rotate_left
   ·
    intro w
    go_simp
    with_reducible rfl
   rotate_left
   refine wpAny_ready (rs := [0, 2]) (by kernel_rfl) (by simp) ?_
   refine AllReady.cons rfl (fun K hK => ?_) ?_
   ·
    go_simp
    refine hK _ _ ?_
    clear hK K
    refine wpAny_ready (rs := [2]) (by kernel_rfl) (by simp) ?_
    refine AllReady.cons rfl (fun K hK => ?_) AllReady.nil
    go_simp
    go_wp2_with (go_at_call 165; refine (HT.out _ HS.out.drew.rd HS.out.drew.bel).mono ?_; rintro e w2 hp; obtain ⟨rfl, hb2, hk2⟩ := hp.none_; clear hp; exact CPost.no (HO.out.trans (by rw [hx]; rfl)) ⟨rfl, rfl, hb2.out, GH.keep HS.out.drew.kept hk2.out, _, HS.out.drew.pk.keep hk2.out (Ne.symm HS.out.gh)⟩)
   refine AllReady.cons rfl (fun K hK => ?_) AllReady.nil
   go_simp
   go_wp2_with (go_at_call 165; refine (HT.out _ HS.out.drew.rd HS.out.drew.bel).mono ?_; rintro e w2 hp; obtain ⟨rfl, hb2, hk2⟩ := hp.none_; clear hp; exact CPost.no (HO.out.trans (by rw [hx]; rfl)) ⟨rfl, rfl, hb2.out, GH.keep HS.out.drew.kept hk2.out, _, HS.out.drew.pk.keep hk2.out (Ne.symm HS.out.gh)⟩))
 | some x =>
  obtain ⟨n, l2⟩ := x
  have HT : Aside0 (∀ W, RdAt w0 W g l → Below w0.heap.size w0 W → Calls Tryz.prog 165 #[.pointer (some ⟨g, 0, none⟩)] W (RPost w0 W g (numV (some (n, l2))))) := ⟨fun W h1 h2 => by have := id_calls g l w0 W h1 h2; rw [hx] at this; exact this⟩
  have HO2 : Aside0 (o = endF { p with id := n } l2) := ⟨by rw [HO.out, hx]; rfl⟩
  clear HO
  cases l2 with
  | nil =>
   rcases hk with rfl | rfl | rfl | rfl | rfl
   all_goals go_upto_region 18 with (fail)
   all_goals go_region_with (go_at_call 165; refine (HT.out _ HS.out.drew.rd HS.out.drew.bel).mono ?_; rintro e w2 hp; obtain ⟨rfl, hr2, hb2, hk2⟩ := hp.some_; clear hp; have HS2 := Amk (HS.out.drew.read hr2.out hb2.out hk2.out); have cb2 := HS2.out.box; have z2 := HS2.out.frozen 2; have c2 := (HS2.out.cell 2).trans (show _ = some (Value.int .i64 p.id) from rfl))
   all_goals have HS3 := Amk (HS2.out.set (q := { p with id := n }) 2 (.int .i64 (n : Int)) rfl)
   all_goals have cg := HS3.out.str
   all_goals go_wp2_with (go_at_call 96; refine (unless_yes _).mono ?_; rintro e wz ⟨rfl, rfl⟩)
   all_goals go_end0
   all_goals exact HS3.out.yes HO2.out
  | cons y l3 =>
   have hl : (y :: l3).isEmpty = false := rfl
   rcases hk with rfl | rfl | rfl | rfl | rfl
   all_goals go_upto_region 18 with (fail)
   all_goals go_region_with (go_at_call 165; refine (HT.out _ HS.out.drew.rd HS.out.drew.bel).mono ?_; rintro e w2 hp; obtain ⟨rfl, hr2, hb2, hk2⟩ := hp.some_; clear hp; have HS2 := Amk (HS.out.drew.read hr2.out hb2.out hk2.out); have cb2 := HS2.out.box; have z2 := HS2.out.frozen 2; have c2 := (HS2.out.cell 2).trans (show _ = some (Value.int .i64 p.id) from rfl))
   all_goals have HS3 := Amk (HS2.out.set (q := { p with id := n }) 2 (.int .i64 (n : Int)) rfl)
   all_goals have cg := HS3.out.str
   all_goals go_wp2_with (go_at_call 96; refine (unless_no _).mono ?_; rintro e wz ⟨rfl, rfl⟩)
   all_goals exact HS3.out.no rfl (HO2.out.trans (by simp [endF]))
theorem St.conn {w0 w wx w2 : World} {g h b : Nat} {p q : Pk} {l l2 : List UInt8} (s : St w0 w g h b p l wx) (hr : RdAt w0 w2 g l2) (hp : PkAt w0 w2 h q) (hb2 : Below w0.heap.size w0 w2) (hk : Kept wx w2 (GH g h)) : St w0 w g h b q l2 w2 :=
 ⟨hr, hp, (hk.2 b (blk_lt s.bx) (fun e => e.elim (fun e => s.gb e.symm) (fun e => s.hb e.symm))).trans s.bx, hb2, s.kept.then_ hk (fun _ hk => .inl hk), s.gh, s.hb, s.gb, s.wb⟩
theorem body_conn (g h : Nat) (l : List UInt8) (p : Pk) (w0 w : World) (hI : RdAt w0 w g l) (hP : PkAt w0 w h p) (hne : g ≠ h) (hB : Below w0.heap.size w0 w) (hk : p.kind = 1) :
  Calls Tryz.prog 99 #[.pointer (some ⟨g, 0, none⟩), .pointer (some ⟨h, 0, none⟩)] w (CPost w0 w g h ((connectF p l).bind fun (q, l) => endF q l)) := by
 have HS := Amk (St.new hI hP hne hB)
 clear hI hB hP hne
 obtain ⟨o, ho⟩ : ∃ o, o = ((connectF p l).bind fun (q, l) => endF q l) := ⟨_, rfl⟩
 have HO := Amk ho
 rw [← ho]
 clear ho
 have cb := HS.out.box
 have c0 : (w.alloc (.cells #[.pointer (some ⟨h, 0, none⟩)] 148)).cell? ⟨h, 0, none⟩ = some (.int .i64 1) := (HS.out.cell 0).trans (by rw [← hk]; rfl)
 have HT := Amk (connect_calls g h l p w0 _ HS.out.rd HS.out.pk HS.out.gh HS.out.bel)
 cases hx : connectF p l with
 | none =>
  have HO2 : Aside0 (o = none) := ⟨by rw [HO.out, hx]; rfl⟩
  rw [hx] at HT
  go_enter Tryz.func99, Tryz.ntmps99
  go_wp2_with (go_at_call 162; refine HT.out.mono ?_; rintro e w2 hp; obtain ⟨rfl, hb2, hk2, hq2⟩ := hp; exact CPost.no HO2.out ⟨rfl, rfl, hb2, HS.out.kept.then_ hk2 (fun _ hk => .inl hk), hq2⟩)
 | some x =>
  obtain ⟨q, l2⟩ := x
  have HO2 : Aside0 (o = endF q l2) := ⟨by rw [HO.out, hx]; rfl⟩
  rw [hx] at HT
  clear HO
  cases l2 with
  | nil =>
   go_enter Tryz.func99, Tryz.ntmps99
   go_wp2_with (first | (go_at_call 162; refine HT.out.mono ?_; rintro e w2 hp; obtain ⟨rfl, hr2, hp2, hb2, hk2⟩ := hp; have HS2 := Amk (HS.out.conn hr2 hp2 hb2 hk2); have cg := HS2.out.str; clear hr2 hp2 hb2 hk2) | (go_at_call 96; refine (unless_yes _).mono ?_; rintro e wz ⟨rfl, rfl⟩))
   go_end0
   exact HS2.out.yes HO2.out
  | cons y l3 =>
   have hl : (y :: l3).isEmpty = false := rfl
   go_enter Tryz.func99, Tryz.ntmps99
   go_wp2_with (first | (go_at_call 162; refine HT.out.mono ?_; rintro e w2 hp; obtain ⟨rfl, hr2, hp2, hb2, hk2⟩ := hp; have HS2 := Amk (HS.out.conn hr2 hp2 hb2 hk2); have cg := HS2.out.str; clear hr2 hp2 hb2 hk2) | (go_at_call 96; refine (unless_no _).mono ?_; rintro e wz ⟨rfl, rfl⟩))
   exact HS2.out.no rfl (HO2.out.trans (by simp [endF]))
def pubEnd (p : Pk) (l : List UInt8) : Option (Pk × List UInt8) := if l.length ≤ 1024 then some ({ p with text := l }, []) else none
def pubF (p : Pk) (f : Nat) (l : List UInt8) : Option (Pk × List UInt8) :=
 (textF l).bind fun (t, l) => if 0 < f / 2 % 4 then (idF l).bind fun (n, l) => pubEnd { p with topic := t, id := n } l else pubEnd { p with topic := t } l
theorem qos_bits (f : Nat) (h : f < 16) : bits .and .i64 ((f : Int) / 2) 3 = ((f / 2 % 4 : Nat) : Int) := by
 have : ∀ x : Fin 16, bits .and .i64 ((x.val : Int) / 2) 3 = ((x.val / 2 % 4 : Nat) : Int) := by decide +kernel
 exact this ⟨f, h⟩
theorem body_pub (f : Nat) (hf2 : f < 16) (g h : Nat) (l : List UInt8) (p : Pk) (w0 w : World) (hI : RdAt w0 w g l) (hP : PkAt w0 w h p) (hne : g ≠ h) (hB : Below w0.heap.size w0 w) (hk : p.kind = 3) (hf : p.flags = f) :
  Calls Tryz.prog 99 #[.pointer (some ⟨g, 0, none⟩), .pointer (some ⟨h, 0, none⟩)] w (CPost w0 w g h (pubF p f l)) := by
 have HS := Amk (St.new hI hP hne hB)
 clear hI hB hP hne
 obtain ⟨o, ho⟩ : ∃ o, o = pubF p f l := ⟨_, rfl⟩
 have HO := Amk ho
 rw [← ho]
 clear ho
 have cb := HS.out.box
 have c0 : (w.alloc (.cells #[.pointer (some ⟨h, 0, none⟩)] 148)).cell? ⟨h, 0, none⟩ = some (.int .i64 3) := (HS.out.cell 0).trans (by rw [← hk]; rfl)
 have HF := Amk hf
 clear hf hk
 have qb := qos_bits f hf2
 cases hx : textF l with
 | none =>
  have HO2 : Aside0 (o = none) := ⟨by rw [HO.out]; simp [pubF, hx]⟩
  have HT : Aside0 (∀ W, RdAt w0 W g l → Below w0.heap.size w0 W → Calls Tryz.prog 164 #[.pointer (some ⟨g, 0, none⟩)] W (RPost w0 W g none)) := ⟨fun W h1 h2 => by have := text_calls g l w0 W h1 h2; rw [hx] at this; exact this⟩
  go_enter Tryz.func99, Tryz.ntmps99
  go_upto_region 8 with (fail)
  refine wp_region_held_drew (S := (fun w' => w'.cell? ⟨w.heap.size, 0, none⟩ = some (.pointer (some ⟨h, 0, none⟩)))) (by kernel_rfl) HS.out.drew.box (fun hHeld => ?_)
  refine wpAnyH_take (i := 0) (v := ?_) rfl (by kernel_rfl) (by kernel_rfl) (by kernel_rfl) (fun _ _ _ h => h) (Or.inl ⟨by rfl, ?_⟩) hHeld ?_; rotate_left; focus (intro w_ hSw; (try dsimp only at hSw); go_simp; (try with_reducible rfl)); rotate_left; try simp only [Act.put, Lsa, Lsz, Lss]
  refine wpAnyH_take (i := 1) (v := ?_) rfl (by kernel_rfl) (by kernel_rfl) (by kernel_rfl) (fun _ _ _ h => h) (Or.inl ⟨by rfl, ?_⟩) hHeld ?_; rotate_left; focus (intro w_ hSw; (try dsimp only at hSw); go_simp; (try with_reducible rfl)); rotate_left; try simp only [Act.put, Lsa, Lsz, Lss]
  refine wpAnyH_ready (rs := [2]) (by kernel_rfl) (by simp) ?_
  refine AllReadyH.cons rfl (fun K hK => ?_) AllReadyH.nil
  go_simp
  go_wp2_with (go_at_call 164; refine (HT.out _ HS.out.drew.rd HS.out.drew.bel).mono ?_; rintro e wq hp; obtain ⟨rfl, hbq, hkq⟩ := hp.none_; clear hp; exact CPost.no HO2.out ⟨rfl, rfl, hbq.out, GH.keep HS.out.drew.kept hkq.out, _, HS.out.drew.pk.keep hkq.out (Ne.symm HS.out.gh)⟩)
 | some x =>
  obtain ⟨t, l2⟩ := x
  have HT : Aside0 (∀ W, RdAt w0 W g l → Below w0.heap.size w0 W → Calls Tryz.prog 164 #[.pointer (some ⟨g, 0, none⟩)] W (RPost w0 W g (textV (some (t, l2))))) := ⟨fun W h1 h2 => by have := text_calls g l w0 W h1 h2; rw [hx] at this; exact this⟩
  go_enter Tryz.func99, Tryz.ntmps99
  go_upto_region 8 with (fail)
  go_region_held3 (fun w' => w'.cell? ⟨w.heap.size, 0, none⟩ = some (.pointer (some ⟨h, 0, none⟩))) (first | exact HS.out.drew.box | exact cbq | exact (HS2.out.set (q := { p with topic := t }) 8 (.string ⟨t.toArray⟩) rfl).box) ((go_at_call 164; refine (HT.out _ HS.out.drew.rd HS.out.drew.bel).mono ?_; rintro e wq hp; obtain ⟨rfl, hrq, hbq, hkq⟩ := hp.some_; clear hp; have HS2 := Amk (HS.out.drew.read hrq.out hbq.out hkq.out); have cbq := HS2.out.box; have zq := HS2.out.frozen 8; have cq := (HS2.out.cell 8).trans (show _ = some (Value.string ⟨p.topic.toArray⟩) from rfl)))
  have HS3 := Amk (HS2.out.set (q := { p with topic := t }) 8 (.string ⟨t.toArray⟩) rfl)
  clear HS HS2 HT cb c0 cbq zq cq
  generalize wq.setCell ⟨h, 8, none⟩ (.string ⟨t.toArray⟩) = w3 at *
  have HO2 : Aside0 (o = if 0 < f / 2 % 4 then (idF l2).bind fun (n, l) => pubEnd { p with topic := t, id := n } l else pubEnd { p with topic := t } l2) := ⟨by rw [HO.out]; simp [pubF, hx]⟩
  clear HO hx
  have cb := HS3.out.box
  have cf : w3.cell? ⟨h, 1, none⟩ = some (.int .i64 (f : Int)) := (HS3.out.cell 1).trans (by rw [← HF.out]; rfl)
  obtain ⟨m, qm, hm⟩ : ∃ m : Int, bits .and .i64 ((f : Int) / 2) 3 = m ∧ m = ((f / 2 % 4 : Nat) : Int) := ⟨_, rfl, qb⟩
  have HM := Amk hm
  clear qb hm
  go_upto_if 51 with (fail)
  go_cut [] (fun wx => ∃ q l', Aside0 (St w0 w g h w.heap.size q l' wx) ∧ Aside0 (o = pubEnd q l'))
  case first =>
   by_cases hq : 0 < f / 2 % 4
   ·
    have hd : 0 < m := by rw [HM.out]; omega
    have HO3 : Aside0 (o = (idF l2).bind fun (n, l) => pubEnd { p with topic := t, id := n } l) := ⟨by rw [HO2.out, if_pos hq]⟩
    clear HO2 hq HM
    cases hy : idF l2 with
    | none =>
     have HT : Aside0 (∀ W, RdAt w0 W g l2 → Below w0.heap.size w0 W → Calls Tryz.prog 165 #[.pointer (some ⟨g, 0, none⟩)] W (RPost w0 W g none)) := ⟨fun W h1 h2 => by have := id_calls g l2 w0 W h1 h2; rw [hy] at this; exact this⟩
     have HO2 : Aside0 (o = none) := ⟨by rw [HO3.out, hy]; rfl⟩
     go_upto_region 10 with (fail)
     refine wp_region_held_drew (S := (fun w' => w'.cell? ⟨w.heap.size, 0, none⟩ = some (.pointer (some ⟨h, 0, none⟩)))) (by kernel_rfl) HS3.out.drew.box (fun hHeld => ?_)
     refine wpAnyH_take (i := 0) (v := ?_) rfl (by kernel_rfl) (by kernel_rfl) (by kernel_rfl) (fun _ _ _ h => h) (Or.inl ⟨by rfl, ?_⟩) hHeld ?_; rotate_left; focus (intro w_ hSw; (try dsimp only at hSw); go_simp; (try with_reducible rfl)); rotate_left; try simp only [Act.put, Lsa, Lsz, Lss]
     refine wpAnyH_take (i := 1) (v := ?_) rfl (by kernel_rfl) (by kernel_rfl) (by kernel_rfl) (fun _ _ _ h => h) (Or.inl ⟨by rfl, ?_⟩) hHeld ?_; rotate_left; focus (intro w_ hSw; (try dsimp only at hSw); go_simp; (try with_reducible rfl)); rotate_left; try simp only [Act.put, Lsa, Lsz, Lss]
     refine wpAnyH_ready (rs := [2]) (by kernel_rfl) (by simp) ?_
     refine AllReadyH.cons rfl (fun K hK => ?_) AllReadyH.nil
     go_simp
     go_wp2_with (go_at_call 165; refine (HT.out _ HS3.out.drew.rd HS3.out.drew.bel).mono ?_; rintro e wq hp; obtain ⟨rfl, hbq, hkq⟩ := hp.none_; clear hp; exact CPost.no HO2.out ⟨rfl, rfl, hbq.out, GH.keep HS3.out.drew.kept hkq.out, _, HS3.out.drew.pk.keep hkq.out (Ne.symm HS3.out.gh)⟩)
    | some y =>
     obtain ⟨n, l3⟩ := y
     have HT : Aside0 (∀ W, RdAt w0 W g l2 → Below w0.heap.size w0 W → Calls Tryz.prog 165 #[.pointer (some ⟨g, 0, none⟩)] W (RPost w0 W g (numV (some (n, l3))))) := ⟨fun W h1 h2 => by have := id_calls g l2 w0 W h1 h2; rw [hy] at this; exact this⟩
     go_upto_region 10 with (fail)
     go_region_held3 (fun w' => w'.cell? ⟨w.heap.size, 0, none⟩ = some (.pointer (some ⟨h, 0, none⟩))) (first | exact HS3.out.drew.box | exact cbq | exact (HS4.out.set (q := { p with topic := t, id := n }) 2 (.int .i64 (n : Int)) rfl).box) ((go_at_call 165; refine (HT.out _ HS3.out.drew.rd HS3.out.drew.bel).mono ?_; rintro e wq hp; obtain ⟨rfl, hrq, hbq, hkq⟩ := hp.some_; clear hp; have HS4 := Amk (HS3.out.drew.read hrq.out hbq.out hkq.out); have cbq := HS4.out.box; have zq := HS4.out.frozen 2; have cq := (HS4.out.cell 2).trans (show _ = some (Value.int .i64 p.id) from rfl)))
     go_wp2_with fail
     go_meet
     exact ⟨_, l3, ⟨HS4.out.set (q := { p with topic := t, id := n }) 2 (.int .i64 (n : Int)) rfl⟩, ⟨by rw [HO3.out, hy]; rfl⟩⟩
   ·
    have hd : ¬ 0 < m := by rw [HM.out]; omega
    go_wp2_with fail
    go_meet
    exact ⟨_, l2, HS3, ⟨by rw [HO2.out, if_neg hq]⟩⟩
  case rest =>
   clear HS3 HO2 cb cf qm HM hrq hbq hkq
   obtain ⟨q, l4, HS5, HO5⟩ := hcut
   have hs := size_l l4
   have cb := HS5.out.box
   have cg := HS5.out.str
   have HT : Aside0 (∀ W, RdAt w0 W g l4 → Below w0.heap.size w0 W → Calls Tryz.prog 166 #[.pointer (some ⟨g, 0, none⟩), .int .i64 (l4.length : Int)] W (RPost w0 W g (some (.string ⟨l4.toArray⟩, [])))) := ⟨fun W h1 h2 => by have := take_calls g l4.length l4 w0 W h1 h2; rw [if_pos (Nat.le_refl _), List.take_length, List.drop_length] at this; exact this⟩
   go_upto_region 11 with (fail)
   clear cb cg
   have cb := HS5.out.box
   have cg := HS5.out.str
   go_cut [] (fun wx => Aside0 (St w0 w g h w.heap.size { q with text := l4 } [] wx))
   case first =>
    go_region_with ((go_at_call 166; refine (HT.out _ HS5.out.drew.rd HS5.out.drew.bel).mono ?_; rintro e wq hp; obtain ⟨rfl, hrq, hbq, hkq⟩ := hp.some_; clear hp; have HS6 := Amk (HS5.out.drew.read hrq.out hbq.out hkq.out); have cbq := HS6.out.box; have zq := HS6.out.frozen 5; have cq := (HS6.out.cell 5).trans (show _ = some (Value.string ⟨q.text.toArray⟩) from rfl)))
    all_goals go_wp2_with fail
    all_goals go_meet
    all_goals exact ⟨HS6.out.set (q := { q with text := l4 }) 5 (.string ⟨l4.toArray⟩) rfl⟩
   case rest =>
    have HS7 := hcut
    clear HS5 HT cb cg
    obtain ⟨w7, rfl⟩ : ∃ W : World, W = wc := ⟨_, rfl⟩
    have cb := HS7.out.box
    have cg := HS7.out.str
    have ct : w7.cell? ⟨h, 5, none⟩ = some (.string ⟨l4.toArray⟩) := (HS7.out.cell 5).trans rfl
    by_cases hlen : l4.length ≤ 1024
    ·
     have hd : decide ((l4.length : Int) ≤ 1024) = true := decide_eq_true (by omega)
     have hd2 : decide (l4.length ≤ 1024) = true := decide_eq_true hlen
     have HO6 : Aside0 (o = endF { q with text := l4 } []) := ⟨by rw [HO5.out, pubEnd, if_pos hlen]; rfl⟩
     clear hlen HO5
     go_wp2_with (go_at_call 96; refine (unless_yes _).mono ?_; rintro e wz ⟨rfl, rfl⟩)
     go_end0
     exact HS7.out.yes HO6.out
    ·
     have hd : decide ((l4.length : Int) ≤ 1024) = false := decide_eq_false (by omega)
     have hd2 : decide (l4.length ≤ 1024) = false := decide_eq_false hlen
     have HO6 : Aside0 (o = none) := ⟨by rw [HO5.out, pubEnd, if_neg hlen]⟩
     clear hlen HO5
     go_wp2_with (go_at_call 96; refine (unless_no _).mono ?_; rintro e wz ⟨rfl, rfl⟩)
     exact HS7.out.no rfl HO6.out
def ackF (p : Pk) (l : List UInt8) : Option (Pk × List UInt8) :=
 (byteF l).bind fun (a, l) => (byteF l).bind fun (b, l) => if a ≤ 1 ∧ b ≤ 5 then endF { p with keep := a, code := b } l else none
theorem body_ack (g h : Nat) (l : List UInt8) (p : Pk) (w0 w : World) (hI : RdAt w0 w g l) (hP : PkAt w0 w h p) (hne : g ≠ h) (hB : Below w0.heap.size w0 w) (hk : p.kind = 2) :
  Calls Tryz.prog 99 #[.pointer (some ⟨g, 0, none⟩), .pointer (some ⟨h, 0, none⟩)] w (CPost w0 w g h (ackF p l)) := by
 have HS := Amk (St.new hI hP hne hB)
 clear hI hB hP hne
 obtain ⟨o, ho⟩ : ∃ o, o = ackF p l := ⟨_, rfl⟩
 have HO := Amk ho
 rw [← ho]
 clear ho
 have cb := HS.out.box
 have c0 : (w.alloc (.cells #[.pointer (some ⟨h, 0, none⟩)] 148)).cell? ⟨h, 0, none⟩ = some (.int .i64 2) := (HS.out.cell 0).trans (by rw [← hk]; rfl)
 clear hk
 cases hx : byteF l with
 | none =>
  have HO2 : Aside0 (o = none) := ⟨by rw [HO.out]; simp [ackF, hx]⟩
  have HT : Aside0 (∀ W, RdAt w0 W g l → Below w0.heap.size w0 W → Calls Tryz.prog 163 #[.pointer (some ⟨g, 0, none⟩)] W (RPost w0 W g none)) := ⟨fun W h1 h2 => by have := byte_calls g l w0 W h1 h2; rw [hx] at this; exact this⟩
  go_enter Tryz.func99, Tryz.ntmps99
  go_upto_region 5 with (fail)
  refine wp_region_held_drew (S := (fun w' => w'.cell? ⟨w.heap.size, 0, none⟩ = some (.pointer (some ⟨h, 0, none⟩)))) (by kernel_rfl) HS.out.drew.box (fun hHeld => ?_)
  refine wpAnyH_take (i := 0) (v := ?_) rfl (by kernel_rfl) (by kernel_rfl) (by kernel_rfl) (fun _ _ _ h => h) (Or.inl ⟨by rfl, ?_⟩) hHeld ?_; rotate_left; focus (intro w_ hSw; (try dsimp only at hSw); go_simp; (try with_reducible rfl)); rotate_left; try simp only [Act.put, Lsa, Lsz, Lss]
  refine wpAnyH_take (i := 1) (v := ?_) rfl (by kernel_rfl) (by kernel_rfl) (by kernel_rfl) (fun _ _ _ h => h) (Or.inl ⟨by rfl, ?_⟩) hHeld ?_; rotate_left; focus (intro w_ hSw; (try dsimp only at hSw); go_simp; (try with_reducible rfl)); rotate_left; try simp only [Act.put, Lsa, Lsz, Lss]
  refine wpAnyH_take (i := 2) (v := ?_) rfl (by kernel_rfl) (by kernel_rfl) (by kernel_rfl) (fun _ _ _ h => h) (Or.inl ⟨by rfl, ?_⟩) hHeld ?_; rotate_left; focus (intro w_ hSw; (try dsimp only at hSw); go_simp; (try with_reducible rfl)); rotate_left; try simp only [Act.put, Lsa, Lsz, Lss]
  refine wpAnyH_take (i := 4) (v := ?_) rfl (by kernel_rfl) (by kernel_rfl) (by kernel_rfl) (fun _ _ _ h => h) (Or.inl ⟨by rfl, ?_⟩) hHeld ?_; rotate_left; focus (intro w_ hSw; (try dsimp only at hSw); go_simp; (try with_reducible rfl)); rotate_left; try simp only [Act.put, Lsa, Lsz, Lss]
  refine wpAnyH_ready (rs := [3]) (by kernel_rfl) (by simp) ?_
  refine AllReadyH.cons rfl (fun K hK => ?_) AllReadyH.nil
  go_simp
  go_wp2_with (go_at_call 163; refine (HT.out _ HS.out.drew.rd HS.out.drew.bel).mono ?_; rintro e wq hp; obtain ⟨rfl, hbq, hkq⟩ := hp.none_; clear hp; exact CPost.no HO2.out ⟨rfl, rfl, hbq.out, GH.keep HS.out.drew.kept hkq.out, _, HS.out.drew.pk.keep hkq.out (Ne.symm HS.out.gh)⟩)
 | some x =>
  obtain ⟨a, l2⟩ := x
  have HT : Aside0 (∀ W, RdAt w0 W g l → Below w0.heap.size w0 W → Calls Tryz.prog 163 #[.pointer (some ⟨g, 0, none⟩)] W (RPost w0 W g (numV (some (a, l2))))) := ⟨fun W h1 h2 => by have := byte_calls g l w0 W h1 h2; rw [hx] at this; exact this⟩
  have HO2 : Aside0 (o = (byteF l2).bind fun (b, l) => if a ≤ 1 ∧ b ≤ 5 then endF { p with keep := a, code := b } l else none) := ⟨by rw [HO.out]; simp [ackF, hx]⟩
  clear HO hx
  cases hy : byteF l2 with
  | none =>
   have HO3 : Aside0 (o = none) := ⟨by rw [HO2.out, hy]; rfl⟩
   have HT2 : Aside0 (∀ W, RdAt w0 W g l2 → Below w0.heap.size w0 W → Calls Tryz.prog 163 #[.pointer (some ⟨g, 0, none⟩)] W (RPost w0 W g none)) := ⟨fun W h1 h2 => by have := byte_calls g l2 w0 W h1 h2; rw [hy] at this; exact this⟩
   go_enter Tryz.func99, Tryz.ntmps99
   go_upto_region 5 with (fail)
   refine wp_region_held_drew (S := (fun w' => w'.cell? ⟨w.heap.size, 0, none⟩ = some (.pointer (some ⟨h, 0, none⟩)))) (by kernel_rfl) HS.out.drew.box (fun hHeld => ?_)
   refine wpAnyH_take (i := 0) (v := ?_) rfl (by kernel_rfl) (by kernel_rfl) (by kernel_rfl) (fun _ _ _ h => h) (Or.inl ⟨by rfl, ?_⟩) hHeld ?_; rotate_left; focus (intro w_ hSw; (try dsimp only at hSw); go_simp; (try with_reducible rfl)); rotate_left; try simp only [Act.put, Lsa, Lsz, Lss]
   refine wpAnyH_take (i := 1) (v := ?_) rfl (by kernel_rfl) (by kernel_rfl) (by kernel_rfl) (fun _ _ _ h => h) (Or.inl ⟨by rfl, ?_⟩) hHeld ?_; rotate_left; focus (intro w_ hSw; (try dsimp only at hSw); go_simp; (try with_reducible rfl)); rotate_left; try simp only [Act.put, Lsa, Lsz, Lss]
   refine wpAnyH_take (i := 2) (v := ?_) rfl (by kernel_rfl) (by kernel_rfl) (by kernel_rfl) (fun _ _ _ h => h) (Or.inl ⟨by rfl, ?_⟩) hHeld ?_; rotate_left; focus (intro w_ hSw; (try dsimp only at hSw); go_simp; (try with_reducible rfl)); rotate_left; try simp only [Act.put, Lsa, Lsz, Lss]
   refine wpAnyH_take (i := 4) (v := ?_) rfl (by kernel_rfl) (by kernel_rfl) (by kernel_rfl) (fun _ _ _ h => h) (Or.inl ⟨by rfl, ?_⟩) hHeld ?_; rotate_left; focus (intro w_ hSw; (try dsimp only at hSw); go_simp; (try with_reducible rfl)); rotate_left; try simp only [Act.put, Lsa, Lsz, Lss]
   refine wpAnyH_ready (rs := [3]) (by kernel_rfl) (by simp) ?_
   refine AllReadyH.cons rfl (fun K hK => ?_) AllReadyH.nil
   go_simp
   go_wp2_with (go_at_call 163; refine (HT.out _ HS.out.drew.rd HS.out.drew.bel).mono ?_; rintro e wq hp; obtain ⟨rfl, hrq, hbq, hkq⟩ := hp.some_; clear hp; have HS2 := Amk (HS.out.drew.read hrq.out hbq.out hkq.out); have cbq := HS2.out.box)
   refine hK.out _ _ cbq (fun hHeld => ?_)
   clear hK K
   try simp only [Act.put, Lsa, Lsz, Lss]
   refine wpAnyH_ready (rs := [5]) (by kernel_rfl) (by simp) ?_
   refine AllReadyH.cons rfl (fun K hK => ?_) AllReadyH.nil
   go_simp
   go_wp2_with (go_at_call 163; refine (HT2.out _ HS2.out.rd HS2.out.bel).mono ?_; rintro e wq hp; obtain ⟨rfl, hbq, hkq⟩ := hp.none_; clear hp; exact CPost.no HO3.out ⟨rfl, rfl, hbq.out, GH.keep HS2.out.kept hkq.out, _, HS2.out.pk.keep hkq.out (Ne.symm HS2.out.gh)⟩)
  | some y =>
   obtain ⟨b, l3⟩ := y
   have HT2 : Aside0 (∀ W, RdAt w0 W g l2 → Below w0.heap.size w0 W → Calls Tryz.prog 163 #[.pointer (some ⟨g, 0, none⟩)] W (RPost w0 W g (numV (some (b, l3))))) := ⟨fun W h1 h2 => by have := byte_calls g l2 w0 W h1 h2; rw [hy] at this; exact this⟩
   have HO3 : Aside0 (o = if a ≤ 1 ∧ b ≤ 5 then endF { p with keep := a, code := b } l3 else none) := ⟨by rw [HO2.out, hy]; rfl⟩
   clear HO2 hy
   go_enter Tryz.func99, Tryz.ntmps99
   go_upto_region 5 with (fail)
   go_region_held3 (fun w' => w'.cell? ⟨w.heap.size, 0, none⟩ = some (.pointer (some ⟨h, 0, none⟩))) (first | exact HS.out.drew.box | exact cbq | exact cbr | exact (HS3.out.set (q := { p with keep := a }) 6 (.int .i64 (a : Int)) rfl).box | exact ((HS3.out.set (q := { p with keep := a }) 6 (.int .i64 (a : Int)) rfl).set (q := { p with keep := a, code := b }) 3 (.int .i64 (b : Int)) rfl).box) (first | (go_at_call 163; refine (HT.out _ HS.out.drew.rd HS.out.drew.bel).mono ?_; clear HT; rintro e wq hp; obtain ⟨rfl, hrq, hbq, hkq⟩ := hp.some_; clear hp; have HS2 := Amk (HS.out.drew.read hrq.out hbq.out hkq.out); have cbq := HS2.out.box) | (go_at_call 163; refine (HT2.out _ HS2.out.rd HS2.out.bel).mono ?_; clear HT2; rintro e wr hp; obtain ⟨rfl, hrr, hbr, hkr⟩ := hp.some_; clear hp; have HS3 := Amk (HS2.out.read hrr.out hbr.out hkr.out); have cbr := HS3.out.box; have z6 := HS3.out.frozen 6; have z3 := HS3.out.frozen 3; have c6 := (HS3.out.cell 6).trans (show _ = some (Value.int .i64 p.keep) from rfl); have c3 := (HS3.out.cell 3).trans (show _ = some (Value.int .i64 p.code) from rfl)))
   have HS5 := Amk ((HS3.out.set (q := { p with keep := a }) 6 (.int .i64 (a : Int)) rfl).set (q := { p with keep := a, code := b }) 3 (.int .i64 (b : Int)) rfl)
   clear HS HS2 HS3 cb c0 cbq cbr z6 z3 c6 c3 hrq hbq hkq hrr hbr hkr
   generalize (wr.setCell ⟨h, 6, none⟩ (.int .i64 (a : Int))).setCell ⟨h, 3, none⟩ (.int .i64 (b : Int)) = w7 at *
   have cb := HS5.out.box
   have cg := HS5.out.str
   have c6 : w7.cell? ⟨h, 6, none⟩ = some (.int .i64 (a : Int)) := (HS5.out.cell 6).trans rfl
   have c3 : w7.cell? ⟨h, 3, none⟩ = some (.int .i64 (b : Int)) := (HS5.out.cell 3).trans rfl
   by_cases ha : a ≤ 1
   case neg =>
    have d1 : decide ((a : Int) ≤ 1) = false := decide_eq_false (by omega)
    have d2 : decide (a ≤ 1) = false := decide_eq_false ha
    have HO4 : Aside0 (o = none) := ⟨by rw [HO3.out, if_neg (fun h => ha h.1)]⟩
    clear ha
    go_wp2_with (go_at_call 96; refine (unless_no _).mono ?_; rintro e wz ⟨rfl, rfl⟩)
    exact HS5.out.no rfl HO4.out
   case pos =>
    have d1 : decide ((a : Int) ≤ 1) = true := decide_eq_true (by omega)
    have d2 : decide (a ≤ 1) = true := decide_eq_true ha
    by_cases hb : b ≤ 5
    case neg =>
     have d3 : decide ((b : Int) ≤ 5) = false := decide_eq_false (by omega)
     have d4 : decide (b ≤ 5) = false := decide_eq_false hb
     have HO4 : Aside0 (o = none) := ⟨by rw [HO3.out, if_neg (fun h => hb h.2)]⟩
     clear ha hb
     go_wp2_with (go_at_call 96; refine (unless_no _).mono ?_; rintro e wz ⟨rfl, rfl⟩)
     exact HS5.out.no rfl HO4.out
    case pos =>
     have d3 : decide ((b : Int) ≤ 5) = true := decide_eq_true (by omega)
     have d4 : decide (b ≤ 5) = true := decide_eq_true hb
     have HO4 : Aside0 (o = endF { p with keep := a, code := b } l3) := ⟨by rw [HO3.out, if_pos ⟨ha, hb⟩]⟩
     clear ha hb HO3
     cases l3 with
     | nil =>
      go_wp2_with (go_at_call 96; refine (unless_yes _).mono ?_; rintro e wz ⟨rfl, rfl⟩)
      go_end0
      exact HS5.out.yes HO4.out
     | cons y l3 =>
      have hl : (y :: l3).isEmpty = false := rfl
      go_wp2_with (go_at_call 96; first | (refine (unless_yes _).mono ?_; rintro e wz ⟨rfl, rfl⟩) | (refine (unless_no _).mono ?_; rintro e wz ⟨rfl, rfl⟩))
      exact HS5.out.no rfl (HO4.out.trans (by simp [endF]))
def wrAt (cur : Array Value) : Nat → List Value → Array Value
 | _, [] => cur
 | o, v :: r => wrAt (cur.setIfInBounds o v) (o + 1) r
theorem setCells_at {g t : Nat} : ∀ (seg : List Value) (o : Nat) (w : World) (cur : Array Value), w.heap[g]? = some (.cells cur t (0, 0)) → (w.setCells g o seg).heap[g]? = some (.cells (wrAt cur o seg) t (0, 0))
 | [], _, _, _, h => h
 | v :: r, o, w, cur, h => setCells_at r (o + 1) _ _ (blk_set h o v)
structure Wrote (W W1 : World) (g : Nat) (cs : Array Value) (t : Nat) : Prop where
 blk : W1.heap[g]? = some (.cells cs t (0, 0))
 far : ∀ k, k ≠ g → W1.heap[k]? = W.heap[k]?
 grown : W.grownBy W1 (some g)
theorem setCells_far' (g : Nat) : ∀ (seg : List Value) (o : Nat) (w : World) (k : Nat), k ≠ g → (w.setCells g o seg).heap[k]? = w.heap[k]?
 | [], _, _, _, _ => rfl
 | v :: r, o, w, k, h => (setCells_far' g r (o + 1) _ k h).trans (Below.heap_setCell w ⟨g, o, none⟩ v k h)
theorem setCell_grown (w : World) (g o : Nat) (v : Value) : w.grownBy (w.setCell ⟨g, o, none⟩ v) (some g) := ⟨rfl, rfl, rfl, by simp [World.setCell], fun k _ hne => Below.heap_setCell w ⟨g, o, none⟩ v k (fun e => hne (by rw [e]))⟩
theorem setCells_grown (g : Nat) : ∀ (seg : List Value) (o : Nat) (w : World), w.grownBy (w.setCells g o seg) (some g)
 | [], _, w => World.grownBy.refl _ _
 | v :: r, o, w => World.grownBy.trans (setCell_grown w g o v) (setCells_grown g r (o + 1) _)
theorem wrAt_list : ∀ (seg pre mid : List Value), seg.length ≤ mid.length → wrAt (pre ++ mid).toArray pre.length seg = (pre ++ seg ++ mid.drop seg.length).toArray
 | [], pre, mid, _ => by simp [wrAt]
 | v :: r, pre, [], h => absurd h (by simp)
 | v :: r, pre, m :: mid, h => by
  have h1 : (pre ++ m :: mid).toArray.setIfInBounds pre.length v = ((pre ++ [v]) ++ mid).toArray := by simp
  rw [wrAt, h1, show pre.length + 1 = (pre ++ [v]).length by simp, wrAt_list r (pre ++ [v]) mid (by simpa using h)]
  simp
theorem wrAt_all (cur : Array Value) (seg : List Value) (h : cur.size = seg.length) : wrAt cur 0 seg = seg.toArray := by
 have := wrAt_list seg [] cur.toList (by simp [h])
 simp only [List.nil_append, List.length_nil, Array.toArray_toList] at this
 rw [this, List.drop_of_length_le (by simp [h]), List.append_nil]
section
variable {P : Program} {ops : Array Oper} {rest : List Oper} {o : Oper} {a : Act} {Q : Exit → Act → World → Prop}
theorem wpList_store_blk {W : World} (t : TypeId) (p x : Operand) (ho : o.op = .store t p x) (hN : o.dst = none) (hgd : o.guard = none) {g e : Nat} {cur : Array Value} (u : Value) (seg : List Value)
  (hp : a.eval p = .pointer (some ⟨g, 0, none⟩)) (hx : a.eval x = u) (hu : u.cells.toList = seg) (hh : W.heap[g]? = some (.cells cur e (0, 0))) (ht : (P.info? t).map (·.size) = some seg.length) (hsz : cur.size = seg.length)
  (h1 : ∀ q ∈ seg, q.oneCell' = true)
  (h : ∀ W1, Wrote W W1 g seg.toArray e → wpList P ops Q rest a W1) : wpList P ops Q (o :: rest) a W := by
 refine wpList_plain hgd fun K hK => ?_
 have hrun := run_store_run (P := P) (w := W) (g := g) (o := 0) t u seg hh hu ht (by omega) h1
 unfold Oper.wp execOp
 simp only [ho, hp, hx, Sem.run_bind, Sem.run_pure, Result.andThen_ok, hrun]
 show K (a.put o.dst undef) _
 rw [hN]
 refine hK a _ (h _ ⟨?_, setCells_far' g seg 0 W, setCells_grown g seg 0 W⟩)
 rw [← wrAt_all cur seg hsz]
 exact setCells_at seg 0 W cur hh
end
namespace Wrote
variable {W W1 : World} {g t : Nat} {cs : Array Value}
theorem blk_ {k : Nat} {o : Obj} (h : Wrote W W1 g cs t) (hb : W.heap[k]? = some o) (hne : k ≠ g) : W1.heap[k]? = some o := (h.far k hne).trans hb
theorem below {w0 : World} {B : Nat} (h : Wrote W W1 g cs t) (hb : Below B w0 W) (hB : B ≤ W.heap.size) (hg : B ≤ g) : Below B w0 W1 := hb.grown h.grown hB (fun k hk => by cases hk; exact hg)
end Wrote
end Go.Proofs.YtednegmjjjdinaaGreatDoor.Ext
namespace Go.Proofs.YtednegmjjjdinaaGreatDoor.QT
open Go.RowKit Go.Proofs.YtednegmjjjdinaaGreatDoor.Ext Go.Proofs.YtednegmjjjdinaaGreatDoor.QW Go.Proofs.YtednegmjjjdinaaGreatDoor.K Go.Proofs.YtednegmjjjdinaaGreatDoorW.PrintWords Go.Proofs.YtednegmjjjdinaaGreatDoorW.PrintLast Go.Proofs.YtednegmjjjdinaaGreatDoorW.PrintMore
attribute [local go_sem] max2_int min2_int max_two min_two max_three min_three max_four min_four
set_option linter.unusedVariables false
set_option linter.unusedSimpArgs false
def errW : Option Int → Value
 | none => .nilIface
 | some c => .iface 0 (.int .i64 c)
theorem errW_none : errW none = .nilIface := rfl
theorem errW_some (c : Int) : errW (some c) = .iface 0 (.int .i64 c) := rfl
end Go.Proofs.YtednegmjjjdinaaGreatDoor.QT
namespace Go.Proofs.YtednegmjjjdinaaGreatDoor.QT
open Go.RowKit Go.Proofs.YtednegmjjjdinaaGreatDoor.Ext Go.Proofs.YtednegmjjjdinaaGreatDoor.QW Go.Proofs.YtednegmjjjdinaaGreatDoor.K Go.Proofs.YtednegmjjjdinaaGreatDoorW.PrintWords Go.Proofs.YtednegmjjjdinaaGreatDoorW.PrintLast Go.Proofs.YtednegmjjjdinaaGreatDoorW.PrintMore
attribute [local go_sem] max2_int min2_int max_two min_two max_three min_three max_four min_four
set_option linter.unusedVariables false
set_option linter.unusedSimpArgs false
def topic_Pattern.l0 : Nat → ByteArray → List ByteArray → List ByteArray → Int → Int → Option (Bool)
 | 0, _, _, _, _, _ => none
 | k + 1, x0, x3, x8, x9, x10 => if x10 < x9 then (if 0 ≤ x10 then (if x10 < (x8.length : Int) then ((topic_word.f (rdOf ByteArray.empty x8 x10)).bind fun t105 => (if t105 = true then (topic_Pattern.l0 k x0 x3 x8 x9 (wrap64 (x10 + 1))) else (if (rdOf ByteArray.empty x8 x10).toList = ([42] : List UInt8) then (topic_Pattern.l0 k x0 x3 x8 x9 (wrap64 (x10 + 1))) else (if (rdOf ByteArray.empty x8 x10).toList = ([35] : List UInt8) then (if x10 = (wrap64 ((x3.length : Int) - 1)) then (topic_Pattern.l0 k x0 x3 x8 x9 (wrap64 (x10 + 1))) else (some false)) else (some false))))) else (none)) else (none)) else (if (x0.size : Int) ≤ 64 then (some (decide ((x3.length : Int) ≤ 8))) else (some false))
def topic_Pattern.f (k : Nat) (a0 : ByteArray) : Option (Bool) := (strings_Split.f a0 (⟨#[46]⟩ : ByteArray)).bind fun t101 => (topic_Pattern.l0 k a0 t101 t101 (t101.length : Int) 0)
theorem topic_Pattern.mono_l : ∀ k, (∀ y0 y1 y2 y3 y4, LeO (topic_Pattern.l0 k y0 y1 y2 y3 y4) (topic_Pattern.l0 (k + 1) y0 y1 y2 y3 y4))
 | 0 => fun _ _ _ _ _ r h => by simp [topic_Pattern.l0] at h
 | k + 1 => by
  have ih0 := topic_Pattern.mono_l k
  ·
   intro y0 y1 y2 y3 y4
   unfold topic_Pattern.l0
   repeat' first
   | (with_reducible exact ih0 _ _ _ _ _)
   | (with_reducible exact LeO.refl _)
   | (with_reducible exact LeO.none _)
   | (with_reducible refine LeO.ite ?_ ?_)
   | (with_reducible refine LeO.bind ?_ (fun _ => ?_))
   | exact ih0 _ _ _ _ _
   | exact LeO.none _
   | refine LeO.ite ?_ ?_
   | refine LeO.bind ?_ (fun _ => ?_)
theorem topic_Pattern.mono : ∀ a0 k, LeO (topic_Pattern.f k a0) (topic_Pattern.f (k + 1) a0) := by
 intro a0 k
 have ih0 := topic_Pattern.mono_l k
 unfold topic_Pattern.f
 repeat' first
   | (with_reducible exact ih0 _ _ _ _ _)
   | (with_reducible exact LeO.refl _)
   | (with_reducible exact LeO.none _)
   | (with_reducible refine LeO.ite ?_ ?_)
   | (with_reducible refine LeO.bind ?_ (fun _ => ?_))
   | exact ih0 _ _ _ _ _
   | exact LeO.none _
   | refine LeO.ite ?_ ?_
   | refine LeO.bind ?_ (fun _ => ?_)
theorem topic_Pattern.calls (k : Nat) (a0 : ByteArray) (r : Bool) (w : World) (hG : WI w) (h : topic_Pattern.f k a0 = some r) :
  Calls Tryz.prog 55 #[.string a0] w fun e w' => e = .returned (.bool r) ∧ Below w.heap.size w w' := by
 have HB := Amk (Below.refl w.heap.size w)
 have HG := Amk hG
 clear hG
 have H : ((strings_Split.f a0 (⟨#[46]⟩ : ByteArray)).bind fun t101 => (topic_Pattern.l0 k a0 t101 t101 (t101.length : Int) 0)) = some r := h
 clear h
 replace H := Option.bind_eq_some_iff.mp H
 obtain ⟨t101, A20, H⟩ := H
 replace H : (topic_Pattern.l0 k a0 t101 t101 (t101.length : Int) 0) = some r := H
 have A2 := Amk A20
 clear A20
 have H' := Amk H
 clear H
 go_enter Tryz.func55, Tryz.ntmps55
 go_wp2_with (first | ((with_reducible refine gate_callee (f := 107) rfl ?_); refine goesL_ (some 7) rfl rfl Tryz.func107 (by kernel_rfl) rfl #[.string a0, .string (⟨#[46]⟩ : ByteArray)] rfl (by (try simp only [List.map_toArray, List.map_cons, List.map_nil]); first | done | rfl | (simp only [List.length_drop, List.length_take]; rfl)) ?_; (with_reducible refine (strings_Split.calls a0 (⟨#[46]⟩ : ByteArray) t101 _ ?side1 A2.out).mono ?_); (case side1 => exact WI.below HG.out (by repeat (first | (with_reducible first | exact HB.out | apply bal | apply pw_below_drewN | apply bdr) | exact HB.out))); rintro e w3 ⟨v102, rfl, ho0, hb⟩; refine ⟨_, rfl, ?_⟩; have n0_ := Amk (Kd.R_lower ho0 (below_size (by repeat (first | (with_reducible first | exact HB.out | apply bal | apply pw_below_drewN | apply bdr) | exact HB.out)))); have n1_ := Amk (below_step (by repeat (first | (with_reducible first | exact HB.out | apply bal | apply pw_below_drewN | apply bdr) | exact HB.out)) hb); clear HB; have HO103 := n0_; have HB := n1_; clear n0_ n1_; (try clear hb); (try clear hb2); (try clear hk); (try clear hi); (try clear ho0); obtain ⟨Ao4, co4, eo4⟩ := Kd.R_slice HO103.out; subst eo4))
 go_loopg [10] k (fun kq v10 w' => ∃ (x10_1 : Int), v10 = .int .i64 x10_1 ∧ Aside0 (topic_Pattern.l0 kq a0 t101 t101 (t101.length : Int) x10_1 = some r) ∧ Aside0 (kq ≤ k) ∧ Aside0 (Kd.R Kd.string 9 w' w.heap.size (fun _ => True) (.slice Ao4 t101.length co4) t101) ∧ Aside0 (Kd.R Kd.string 9 w' w.heap.size (fun _ => True) (.slice Ao4 t101.length co4) t101) ∧ Aside0 (Below w.heap.size w w'))
 case atStart => exact ⟨(0), (by first | rfl | (simp; done) | (simp [*]; done)), H', ⟨Nat.le_refl _⟩, ⟨by (with_reducible repeat (first | apply Kd.R_alloc | apply Kd.R_drewN | apply Kd.R_drew)); exact HO103.out⟩, ⟨by (with_reducible repeat (first | apply Kd.R_alloc | apply Kd.R_drewN | apply Kd.R_drew)); exact HO103.out⟩, ⟨by repeat (first | (with_reducible first | exact HB.out | apply bal | apply pw_below_drewN | apply bdr) | exact HB.out)⟩⟩
 case round =>
  clear H'
  try clear c1
  try clear p2
  obtain ⟨x10_1, rfl, HA, HK1, HO_3, HO_8, HB⟩ := hrel
  cases gk with
  | zero => exact absurd HA.out (by simp [topic_Pattern.l0])
  | succ k1 =>
   have H := HA.out
   clear HA
   simp only [topic_Pattern.l0] at H
   by_cases c5 : x10_1 < (t101.length : Int)
   ·
    rw [if_pos c5] at H
    have c5b0 : decide (x10_1 < (t101.length : Int)) = true := decide_eq_true c5
    clear c5
    by_cases c6 : 0 ≤ x10_1
    ·
     rw [if_pos c6] at H
     have c6b0 : decide (0 ≤ x10_1) = true := decide_eq_true c6
     clear c6
     by_cases c7 : x10_1 < (t101.length : Int)
     ·
      rw [if_pos c7] at H
      have c7b0 : decide (x10_1 < (t101.length : Int)) = true := decide_eq_true c7
      clear c7
      replace H := Option.bind_eq_some_iff.mp H
      obtain ⟨t105, A80, H⟩ := H
      replace H : (if t105 = true then (topic_Pattern.l0 k1 a0 t101 t101 (t101.length : Int) (wrap64 (x10_1 + 1))) else (if (rdOf ByteArray.empty t101 x10_1).toList = ([42] : List UInt8) then (topic_Pattern.l0 k1 a0 t101 t101 (t101.length : Int) (wrap64 (x10_1 + 1))) else (if (rdOf ByteArray.empty t101 x10_1).toList = ([35] : List UInt8) then (if x10_1 = (wrap64 ((t101.length : Int) - 1)) then (topic_Pattern.l0 k1 a0 t101 t101 (t101.length : Int) (wrap64 (x10_1 + 1))) else (some false)) else (some false)))) = some r := H
      have A8 := Amk A80
      clear A80
      by_cases c9 : t105 = true
      ·
       subst c9
       have H1 : (topic_Pattern.l0 k1 a0 t101 t101 (t101.length : Int) (wrap64 (x10_1 + 1))) = some r := by rw [if_pos rfl] at H; exact H
       clear H
       have H := H1
       clear H1
       have H' := Amk H
       clear H
       have p104 : 0 ≤ (x10_1 : Int) := of_decide_eq_true (by first | (with_reducible assumption) | assumption)
       have q104 : x10_1 < (t101.length : Int) := of_decide_eq_true (by first | (with_reducible assumption) | assumption)
       obtain ⟨ad104, e104, hx104_0⟩ := Kd.at_string (Kd.R_reads' HO_8.out).2.2 x10_1 p104 q104
       cases e104
       replace p104 := eq_true p104
       replace q104 := eq_true q104
       go_wp2_with (first | ((with_reducible refine gate_callee (f := 108) rfl ?_); refine goesL_ (some 16) rfl rfl Tryz.func108 (by kernel_rfl) rfl #[.string (rdOf ByteArray.empty t101 x10_1)] rfl (by (try simp only [List.map_toArray, List.map_cons, List.map_nil]); first | done | rfl | (simp only [List.length_drop, List.length_take]; rfl)) ?_; (with_reducible refine (topic_word.calls (rdOf ByteArray.empty t101 x10_1) true _ ?side1 A8.out).mono ?_); (case side1 => exact WI.below HG.out (by repeat (first | (with_reducible first | exact HB.out | apply bal | apply pw_below_drewN | apply bdr) | exact HB.out))); rintro e w10 ⟨rfl, hb⟩; refine ⟨_, rfl, ?_⟩; have n0_ := Amk (Kd.R_below (by (with_reducible repeat (first | apply Kd.R_alloc | apply Kd.R_drewN | apply Kd.R_drew)); exact HO_3.out) hb); have n1_ := Amk (Kd.R_below (by (with_reducible repeat (first | apply Kd.R_alloc | apply Kd.R_drewN | apply Kd.R_drew)); exact HO_8.out) hb); have n2_ := Amk (below_step (by repeat (first | (with_reducible first | exact HB.out | apply bal | apply pw_below_drewN | apply bdr) | exact HB.out)) hb); clear HO_3; clear HO_8; clear HB; have HO_3 := n0_; have HO_8 := n1_; have HB := n2_; clear n0_ n1_ n2_; (try clear hb); (try clear hb2); (try clear hk); (try clear hi)))
       go_roundg k1
       case measure => have := HK1.out; omega
       case rel => exact ⟨(wrap64 (x10_1 + 1)), (by first | rfl | (simp; done) | (simp [*]; done)), H', ⟨by have := HK1.out; omega⟩, ⟨by (with_reducible repeat (first | apply Kd.R_alloc | apply Kd.R_drewN | apply Kd.R_drew)); exact HO_3.out⟩, ⟨by (with_reducible repeat (first | apply Kd.R_alloc | apply Kd.R_drewN | apply Kd.R_drew)); exact HO_8.out⟩, ⟨by repeat (first | (with_reducible first | exact HB.out | apply bal | apply pw_below_drewN | apply bdr) | exact HB.out)⟩⟩
      ·
       replace c9 := Bool.eq_false_iff.mpr c9
       subst c9
       have H1 : (if (rdOf ByteArray.empty t101 x10_1).toList = ([42] : List UInt8) then (topic_Pattern.l0 k1 a0 t101 t101 (t101.length : Int) (wrap64 (x10_1 + 1))) else (if (rdOf ByteArray.empty t101 x10_1).toList = ([35] : List UInt8) then (if x10_1 = (wrap64 ((t101.length : Int) - 1)) then (topic_Pattern.l0 k1 a0 t101 t101 (t101.length : Int) (wrap64 (x10_1 + 1))) else (some false)) else (some false))) = some r := by rw [if_neg (show ¬ (false = true) by decide)] at H; exact H
       clear H
       have H := H1
       clear H1
       by_cases c11 : (rdOf ByteArray.empty t101 x10_1).toList = ([42] : List UInt8)
       ·
        rw [if_pos c11] at H
        have c11b0 : ((rdOf ByteArray.empty t101 x10_1).toList == ([42] : List UInt8)) = true := beq_iff_eq.mpr c11
        have c11b1 : ((rdOf ByteArray.empty t101 x10_1).toList != ([42] : List UInt8)) = false := bne_eq_false_iff_eq.mpr c11
        clear c11
        have H' := Amk H
        clear H
        have p104 : 0 ≤ (x10_1 : Int) := of_decide_eq_true (by first | (with_reducible assumption) | assumption)
        have q104 : x10_1 < (t101.length : Int) := of_decide_eq_true (by first | (with_reducible assumption) | assumption)
        obtain ⟨ad104, e104, hx104_0⟩ := Kd.at_string (Kd.R_reads' HO_8.out).2.2 x10_1 p104 q104
        cases e104
        replace p104 := eq_true p104
        replace q104 := eq_true q104
        go_wp2_with (first | ((with_reducible refine gate_callee (f := 108) rfl ?_); refine goesL_ (some 16) rfl rfl Tryz.func108 (by kernel_rfl) rfl #[.string (rdOf ByteArray.empty t101 x10_1)] rfl (by (try simp only [List.map_toArray, List.map_cons, List.map_nil]); first | done | rfl | (simp only [List.length_drop, List.length_take]; rfl)) ?_; (with_reducible refine (topic_word.calls (rdOf ByteArray.empty t101 x10_1) false _ ?side1 A8.out).mono ?_); (case side1 => exact WI.below HG.out (by repeat (first | (with_reducible first | exact HB.out | apply bal | apply pw_below_drewN | apply bdr) | exact HB.out))); rintro e w12 ⟨rfl, hb⟩; refine ⟨_, rfl, ?_⟩; have n0_ := Amk (Kd.R_below (by (with_reducible repeat (first | apply Kd.R_alloc | apply Kd.R_drewN | apply Kd.R_drew)); exact HO_3.out) hb); have n1_ := Amk (Kd.R_below (by (with_reducible repeat (first | apply Kd.R_alloc | apply Kd.R_drewN | apply Kd.R_drew)); exact HO_8.out) hb); have n2_ := Amk (below_step (by repeat (first | (with_reducible first | exact HB.out | apply bal | apply pw_below_drewN | apply bdr) | exact HB.out)) hb); clear HO_3; clear HO_8; clear HB; have HO_3 := n0_; have HO_8 := n1_; have HB := n2_; clear n0_ n1_ n2_; (try clear hb); (try clear hb2); (try clear hk); (try clear hi)))
        go_roundg k1
        case measure => have := HK1.out; omega
        case rel => exact ⟨(wrap64 (x10_1 + 1)), (by first | rfl | (simp; done) | (simp [*]; done)), H', ⟨by have := HK1.out; omega⟩, ⟨by (with_reducible repeat (first | apply Kd.R_alloc | apply Kd.R_drewN | apply Kd.R_drew)); exact HO_3.out⟩, ⟨by (with_reducible repeat (first | apply Kd.R_alloc | apply Kd.R_drewN | apply Kd.R_drew)); exact HO_8.out⟩, ⟨by repeat (first | (with_reducible first | exact HB.out | apply bal | apply pw_below_drewN | apply bdr) | exact HB.out)⟩⟩
       ·
        rw [if_neg c11] at H
        have c11b0 : ((rdOf ByteArray.empty t101 x10_1).toList == ([42] : List UInt8)) = false := beq_eq_false_iff_ne.mpr c11
        have c11b1 : ((rdOf ByteArray.empty t101 x10_1).toList != ([42] : List UInt8)) = true := bne_iff_ne.mpr c11
        by_cases c13 : (rdOf ByteArray.empty t101 x10_1).toList = ([35] : List UInt8)
        ·
         rw [if_pos c13] at H
         have c13b0 : ((rdOf ByteArray.empty t101 x10_1).toList == ([35] : List UInt8)) = true := beq_iff_eq.mpr c13
         have c13b1 : ((rdOf ByteArray.empty t101 x10_1).toList != ([35] : List UInt8)) = false := bne_eq_false_iff_eq.mpr c13
         clear c13
         by_cases c14 : x10_1 = (wrap64 ((t101.length : Int) - 1))
         ·
          rw [if_pos c14] at H
          have c14b0 : (x10_1 == (wrap64 ((t101.length : Int) - 1))) = true := beq_iff_eq.mpr c14
          have c14b1 : (x10_1 != (wrap64 ((t101.length : Int) - 1))) = false := bne_eq_false_iff_eq.mpr c14
          clear c14
          have H' := Amk H
          clear H
          have p104 : 0 ≤ (x10_1 : Int) := of_decide_eq_true (by first | (with_reducible assumption) | assumption)
          have q104 : x10_1 < (t101.length : Int) := of_decide_eq_true (by first | (with_reducible assumption) | assumption)
          obtain ⟨ad104, e104, hx104_0⟩ := Kd.at_string (Kd.R_reads' HO_8.out).2.2 x10_1 p104 q104
          cases e104
          replace p104 := eq_true p104
          replace q104 := eq_true q104
          go_wp2_with (first | ((with_reducible refine gate_callee (f := 108) rfl ?_); refine goesL_ (some 16) rfl rfl Tryz.func108 (by kernel_rfl) rfl #[.string (rdOf ByteArray.empty t101 x10_1)] rfl (by (try simp only [List.map_toArray, List.map_cons, List.map_nil]); first | done | rfl | (simp only [List.length_drop, List.length_take]; rfl)) ?_; (with_reducible refine (topic_word.calls (rdOf ByteArray.empty t101 x10_1) false _ ?side1 A8.out).mono ?_); (case side1 => exact WI.below HG.out (by repeat (first | (with_reducible first | exact HB.out | apply bal | apply pw_below_drewN | apply bdr) | exact HB.out))); rintro e w15 ⟨rfl, hb⟩; refine ⟨_, rfl, ?_⟩; have n0_ := Amk (Kd.R_below (by (with_reducible repeat (first | apply Kd.R_alloc | apply Kd.R_drewN | apply Kd.R_drew)); exact HO_3.out) hb); have n1_ := Amk (Kd.R_below (by (with_reducible repeat (first | apply Kd.R_alloc | apply Kd.R_drewN | apply Kd.R_drew)); exact HO_8.out) hb); have n2_ := Amk (below_step (by repeat (first | (with_reducible first | exact HB.out | apply bal | apply pw_below_drewN | apply bdr) | exact HB.out)) hb); clear HO_3; clear HO_8; clear HB; have HO_3 := n0_; have HO_8 := n1_; have HB := n2_; clear n0_ n1_ n2_; (try clear hb); (try clear hb2); (try clear hk); (try clear hi)))
          go_roundg k1
          case measure => have := HK1.out; omega
          case rel => exact ⟨(wrap64 (x10_1 + 1)), (by first | rfl | (simp; done) | (simp [*]; done)), H', ⟨by have := HK1.out; omega⟩, ⟨by (with_reducible repeat (first | apply Kd.R_alloc | apply Kd.R_drewN | apply Kd.R_drew)); exact HO_3.out⟩, ⟨by (with_reducible repeat (first | apply Kd.R_alloc | apply Kd.R_drewN | apply Kd.R_drew)); exact HO_8.out⟩, ⟨by repeat (first | (with_reducible first | exact HB.out | apply bal | apply pw_below_drewN | apply bdr) | exact HB.out)⟩⟩
         ·
          rw [if_neg c14] at H
          have c14b0 : (x10_1 == (wrap64 ((t101.length : Int) - 1))) = false := beq_eq_false_iff_ne.mpr c14
          have c14b1 : (x10_1 != (wrap64 ((t101.length : Int) - 1))) = true := bne_iff_ne.mpr c14
          obtain rfl := Option.some.inj H
          have p104 : 0 ≤ (x10_1 : Int) := of_decide_eq_true (by first | (with_reducible assumption) | assumption)
          have q104 : x10_1 < (t101.length : Int) := of_decide_eq_true (by first | (with_reducible assumption) | assumption)
          obtain ⟨ad104, e104, hx104_0⟩ := Kd.at_string (Kd.R_reads' HO_8.out).2.2 x10_1 p104 q104
          cases e104
          replace p104 := eq_true p104
          replace q104 := eq_true q104
          go_wp2_with (first | ((with_reducible refine gate_callee (f := 108) rfl ?_); refine goesL_ (some 16) rfl rfl Tryz.func108 (by kernel_rfl) rfl #[.string (rdOf ByteArray.empty t101 x10_1)] rfl (by (try simp only [List.map_toArray, List.map_cons, List.map_nil]); first | done | rfl | (simp only [List.length_drop, List.length_take]; rfl)) ?_; (with_reducible refine (topic_word.calls (rdOf ByteArray.empty t101 x10_1) false _ ?side1 A8.out).mono ?_); (case side1 => exact WI.below HG.out (by repeat (first | (with_reducible first | exact HB.out | apply bal | apply pw_below_drewN | apply bdr) | exact HB.out))); rintro e w16 ⟨rfl, hb⟩; refine ⟨_, rfl, ?_⟩; have n0_ := Amk (Kd.R_below (by (with_reducible repeat (first | apply Kd.R_alloc | apply Kd.R_drewN | apply Kd.R_drew)); exact HO_3.out) hb); have n1_ := Amk (Kd.R_below (by (with_reducible repeat (first | apply Kd.R_alloc | apply Kd.R_drewN | apply Kd.R_drew)); exact HO_8.out) hb); have n2_ := Amk (below_step (by repeat (first | (with_reducible first | exact HB.out | apply bal | apply pw_below_drewN | apply bdr) | exact HB.out)) hb); clear HO_3; clear HO_8; clear HB; have HO_3 := n0_; have HO_8 := n1_; have HB := n2_; clear n0_ n1_ n2_; (try clear hb); (try clear hb2); (try clear hk); (try clear hi)))
          go_ret
          exact ⟨by first | rfl | (simp [errW_none, errW_some] <;> rfl) | (simp [*, errW_none, errW_some] <;> rfl), by repeat (first | (with_reducible first | exact HB.out | apply bal | apply pw_below_drewN | apply bdr) | exact HB.out)⟩
        ·
         rw [if_neg c13] at H
         have c13b0 : ((rdOf ByteArray.empty t101 x10_1).toList == ([35] : List UInt8)) = false := beq_eq_false_iff_ne.mpr c13
         have c13b1 : ((rdOf ByteArray.empty t101 x10_1).toList != ([35] : List UInt8)) = true := bne_iff_ne.mpr c13
         obtain rfl := Option.some.inj H
         have p104 : 0 ≤ (x10_1 : Int) := of_decide_eq_true (by first | (with_reducible assumption) | assumption)
         have q104 : x10_1 < (t101.length : Int) := of_decide_eq_true (by first | (with_reducible assumption) | assumption)
         obtain ⟨ad104, e104, hx104_0⟩ := Kd.at_string (Kd.R_reads' HO_8.out).2.2 x10_1 p104 q104
         cases e104
         replace p104 := eq_true p104
         replace q104 := eq_true q104
         go_wp2_with (first | ((with_reducible refine gate_callee (f := 108) rfl ?_); refine goesL_ (some 16) rfl rfl Tryz.func108 (by kernel_rfl) rfl #[.string (rdOf ByteArray.empty t101 x10_1)] rfl (by (try simp only [List.map_toArray, List.map_cons, List.map_nil]); first | done | rfl | (simp only [List.length_drop, List.length_take]; rfl)) ?_; (with_reducible refine (topic_word.calls (rdOf ByteArray.empty t101 x10_1) false _ ?side1 A8.out).mono ?_); (case side1 => exact WI.below HG.out (by repeat (first | (with_reducible first | exact HB.out | apply bal | apply pw_below_drewN | apply bdr) | exact HB.out))); rintro e w17 ⟨rfl, hb⟩; refine ⟨_, rfl, ?_⟩; have n0_ := Amk (Kd.R_below (by (with_reducible repeat (first | apply Kd.R_alloc | apply Kd.R_drewN | apply Kd.R_drew)); exact HO_3.out) hb); have n1_ := Amk (Kd.R_below (by (with_reducible repeat (first | apply Kd.R_alloc | apply Kd.R_drewN | apply Kd.R_drew)); exact HO_8.out) hb); have n2_ := Amk (below_step (by repeat (first | (with_reducible first | exact HB.out | apply bal | apply pw_below_drewN | apply bdr) | exact HB.out)) hb); clear HO_3; clear HO_8; clear HB; have HO_3 := n0_; have HO_8 := n1_; have HB := n2_; clear n0_ n1_ n2_; (try clear hb); (try clear hb2); (try clear hk); (try clear hi)))
         go_ret
         exact ⟨by first | rfl | (simp [errW_none, errW_some] <;> rfl) | (simp [*, errW_none, errW_some] <;> rfl), by repeat (first | (with_reducible first | exact HB.out | apply bal | apply pw_below_drewN | apply bdr) | exact HB.out)⟩
     ·
      rw [if_neg c7] at H
      exact absurd H (by simp)
    ·
     rw [if_neg c6] at H
     exact absurd H (by simp)
   ·
    rw [if_neg c5] at H
    have c5b0 : decide (x10_1 < (t101.length : Int)) = false := decide_eq_false c5
    clear c5
    by_cases c18 : (a0.size : Int) ≤ 64
    ·
     rw [if_pos c18] at H
     have c18b0 : decide ((a0.size : Int) ≤ 64) = true := decide_eq_true c18
     have c18b1 : decide (a0.size ≤ 64) = true := decide_eq_true (by omega)
     clear c18
     obtain rfl := Option.some.inj H
     go_wp2
     go_ret
     exact ⟨by first | rfl | (simp [errW_none, errW_some] <;> rfl) | (simp [*, errW_none, errW_some] <;> rfl), by repeat (first | (with_reducible first | exact HB.out | apply bal | apply pw_below_drewN | apply bdr) | exact HB.out)⟩
    ·
     rw [if_neg c18] at H
     have c18b0 : decide ((a0.size : Int) ≤ 64) = false := decide_eq_false c18
     have c18b1 : decide (a0.size ≤ 64) = false := decide_eq_false (by omega)
     clear c18
     obtain rfl := Option.some.inj H
     go_wp2
     go_ret
     exact ⟨by first | rfl | (simp [errW_none, errW_some] <;> rfl) | (simp [*, errW_none, errW_some] <;> rfl), by repeat (first | (with_reducible first | exact HB.out | apply bal | apply pw_below_drewN | apply bdr) | exact HB.out)⟩
def topic_Dots.f (k : Nat) (a0 : ByteArray) : Option (ByteArray × Int) := (topic_turned.f a0 (⟨#[47, 43]⟩ : ByteArray) (⟨#[46, 42]⟩ : ByteArray)).bind fun t106 => ((strings_ContainsAny.f a0 (⟨#[46, 42]⟩ : ByteArray)).bind fun t107 => (if t107 = true then (some ((⟨#[]⟩ : ByteArray), 30)) else ((topic_Pattern.f k t106).bind fun t108 => (if t108 = true then (some (t106, 0)) else (some ((⟨#[]⟩ : ByteArray), 30))))))
theorem topic_Dots.mono : ∀ a0 k, LeO (topic_Dots.f k a0) (topic_Dots.f (k + 1) a0) := by
 intro a0 k
 unfold topic_Dots.f
 repeat' first
   | (with_reducible exact topic_Pattern.mono _ _)
   | (with_reducible exact LeO.refl _)
   | (with_reducible exact LeO.none _)
   | (with_reducible refine LeO.ite ?_ ?_)
   | (with_reducible refine LeO.bind ?_ (fun _ => ?_))
   | exact topic_Pattern.mono _ _
   | exact LeO.none _
   | refine LeO.ite ?_ ?_
   | refine LeO.bind ?_ (fun _ => ?_)
theorem topic_Dots.calls (k : Nat) (a0 : ByteArray) (r1 : ByteArray) (r2 : Int) (w : World) (hG : WI w) (h : topic_Dots.f k a0 = some (r1, r2)) :
  Calls Tryz.prog 44 #[.string a0] w fun e w' => e = .returned (.tuple #[.string r1, .int .i64 r2]) ∧ Below w.heap.size w w' := by
 have HB := Amk (Below.refl w.heap.size w)
 have HG := Amk hG
 clear hG
 have H : ((topic_turned.f a0 (⟨#[47, 43]⟩ : ByteArray) (⟨#[46, 42]⟩ : ByteArray)).bind fun t106 => ((strings_ContainsAny.f a0 (⟨#[46, 42]⟩ : ByteArray)).bind fun t107 => (if t107 = true then (some ((⟨#[]⟩ : ByteArray), 30)) else ((topic_Pattern.f k t106).bind fun t108 => (if t108 = true then (some (t106, 0)) else (some ((⟨#[]⟩ : ByteArray), 30))))))) = some (r1, r2) := h
 clear h
 replace H := Option.bind_eq_some_iff.mp H
 obtain ⟨t106, A20, H⟩ := H
 replace H : ((strings_ContainsAny.f a0 (⟨#[46, 42]⟩ : ByteArray)).bind fun t107 => (if t107 = true then (some ((⟨#[]⟩ : ByteArray), 30)) else ((topic_Pattern.f k t106).bind fun t108 => (if t108 = true then (some (t106, 0)) else (some ((⟨#[]⟩ : ByteArray), 30)))))) = some (r1, r2) := H
 have A2 := Amk A20
 clear A20
 replace H := Option.bind_eq_some_iff.mp H
 obtain ⟨t107, A30, H⟩ := H
 replace H : (if t107 = true then (some ((⟨#[]⟩ : ByteArray), 30)) else ((topic_Pattern.f k t106).bind fun t108 => (if t108 = true then (some (t106, 0)) else (some ((⟨#[]⟩ : ByteArray), 30))))) = some (r1, r2) := H
 have A3 := Amk A30
 clear A30
 by_cases c4 : t107 = true
 ·
  subst c4
  have H1 : (some ((⟨#[]⟩ : ByteArray), 30)) = some (r1, r2) := by rw [if_pos rfl] at H; exact H
  clear H
  have H := H1
  clear H1
  simp only [Option.some.injEq, Prod.mk.injEq] at H
  obtain ⟨rfl, rfl⟩ := H
  go_enter Tryz.func44, Tryz.ntmps44
  go_wp2_with (first | ((with_reducible refine gate_callee (f := 100) rfl ?_); refine goesL_ (some 6) rfl rfl Tryz.func100 (by kernel_rfl) rfl #[.string a0, .string (⟨#[47, 43]⟩ : ByteArray), .string (⟨#[46, 42]⟩ : ByteArray)] rfl (by (try simp only [List.map_toArray, List.map_cons, List.map_nil]); first | done | rfl | (simp only [List.length_drop, List.length_take]; rfl)) ?_; (with_reducible refine (topic_turned.calls a0 (⟨#[47, 43]⟩ : ByteArray) (⟨#[46, 42]⟩ : ByteArray) t106 _ ?side1 A2.out).mono ?_); (case side1 => exact WI.below HG.out (by repeat (first | (with_reducible first | exact HB.out | apply bal | apply pw_below_drewN | apply bdr) | exact HB.out))); rintro e w5 ⟨rfl, hb⟩; refine ⟨_, rfl, ?_⟩; have n0_ := Amk (below_step (by repeat (first | (with_reducible first | exact HB.out | apply bal | apply pw_below_drewN | apply bdr) | exact HB.out)) hb); clear HB; have HB := n0_; clear n0_; (try clear hb); (try clear hb2); (try clear hk); (try clear hi)) | ((with_reducible refine gate_callee (f := 101) rfl ?_); refine goesL_ (some 8) rfl rfl Tryz.func101 (by kernel_rfl) rfl #[.string a0, .string (⟨#[46, 42]⟩ : ByteArray)] rfl (by (try simp only [List.map_toArray, List.map_cons, List.map_nil]); first | done | rfl | (simp only [List.length_drop, List.length_take]; rfl)) ?_; (with_reducible refine (strings_ContainsAny.calls a0 (⟨#[46, 42]⟩ : ByteArray) true _ ?side1 A3.out).mono ?_); (case side1 => exact WI.below HG.out (by repeat (first | (with_reducible first | exact HB.out | apply bal | apply pw_below_drewN | apply bdr) | exact HB.out))); rintro e w6 ⟨rfl, hb⟩; refine ⟨_, rfl, ?_⟩; have n0_ := Amk (below_step (by repeat (first | (with_reducible first | exact HB.out | apply bal | apply pw_below_drewN | apply bdr) | exact HB.out)) hb); clear HB; have HB := n0_; clear n0_; (try clear hb); (try clear hb2); (try clear hk); (try clear hi)))
  go_ret2
  exact ⟨by first | rfl | (simp [errW_none, errW_some] <;> rfl) | (simp [*, errW_none, errW_some] <;> rfl), by repeat (first | (with_reducible first | exact HB.out | apply bal | apply pw_below_drewN | apply bdr) | exact HB.out)⟩
 ·
  replace c4 := Bool.eq_false_iff.mpr c4
  subst c4
  have H1 : ((topic_Pattern.f k t106).bind fun t108 => (if t108 = true then (some (t106, 0)) else (some ((⟨#[]⟩ : ByteArray), 30)))) = some (r1, r2) := by rw [if_neg (show ¬ (false = true) by decide)] at H; exact H
  clear H
  have H := H1
  clear H1
  replace H := Option.bind_eq_some_iff.mp H
  obtain ⟨t108, A70, H⟩ := H
  replace H : (if t108 = true then (some (t106, 0)) else (some ((⟨#[]⟩ : ByteArray), 30))) = some (r1, r2) := H
  have A7 := Amk A70
  clear A70
  by_cases c8 : t108 = true
  ·
   subst c8
   have H1 : (some (t106, 0)) = some (r1, r2) := by rw [if_pos rfl] at H; exact H
   clear H
   have H := H1
   clear H1
   simp only [Option.some.injEq, Prod.mk.injEq] at H
   obtain ⟨rfl, rfl⟩ := H
   go_enter Tryz.func44, Tryz.ntmps44
   go_wp2_with (first | ((with_reducible refine gate_callee (f := 100) rfl ?_); refine goesL_ (some 6) rfl rfl Tryz.func100 (by kernel_rfl) rfl #[.string a0, .string (⟨#[47, 43]⟩ : ByteArray), .string (⟨#[46, 42]⟩ : ByteArray)] rfl (by (try simp only [List.map_toArray, List.map_cons, List.map_nil]); first | done | rfl | (simp only [List.length_drop, List.length_take]; rfl)) ?_; (with_reducible refine (topic_turned.calls a0 (⟨#[47, 43]⟩ : ByteArray) (⟨#[46, 42]⟩ : ByteArray) t106 _ ?side1 A2.out).mono ?_); (case side1 => exact WI.below HG.out (by repeat (first | (with_reducible first | exact HB.out | apply bal | apply pw_below_drewN | apply bdr) | exact HB.out))); rintro e w9 ⟨rfl, hb⟩; refine ⟨_, rfl, ?_⟩; have n0_ := Amk (below_step (by repeat (first | (with_reducible first | exact HB.out | apply bal | apply pw_below_drewN | apply bdr) | exact HB.out)) hb); clear HB; have HB := n0_; clear n0_; (try clear hb); (try clear hb2); (try clear hk); (try clear hi)) | ((with_reducible refine gate_callee (f := 101) rfl ?_); refine goesL_ (some 8) rfl rfl Tryz.func101 (by kernel_rfl) rfl #[.string a0, .string (⟨#[46, 42]⟩ : ByteArray)] rfl (by (try simp only [List.map_toArray, List.map_cons, List.map_nil]); first | done | rfl | (simp only [List.length_drop, List.length_take]; rfl)) ?_; (with_reducible refine (strings_ContainsAny.calls a0 (⟨#[46, 42]⟩ : ByteArray) false _ ?side1 A3.out).mono ?_); (case side1 => exact WI.below HG.out (by repeat (first | (with_reducible first | exact HB.out | apply bal | apply pw_below_drewN | apply bdr) | exact HB.out))); rintro e w10 ⟨rfl, hb⟩; refine ⟨_, rfl, ?_⟩; have n0_ := Amk (below_step (by repeat (first | (with_reducible first | exact HB.out | apply bal | apply pw_below_drewN | apply bdr) | exact HB.out)) hb); clear HB; have HB := n0_; clear n0_; (try clear hb); (try clear hb2); (try clear hk); (try clear hi)) | (go_at_call 55; (with_reducible refine (topic_Pattern.calls k t106 true _ ?side1 A7.out).mono ?_); (case side1 => exact WI.below HG.out (by repeat (first | (with_reducible first | exact HB.out | apply bal | apply pw_below_drewN | apply bdr) | exact HB.out))); rintro e w11 ⟨rfl, hb⟩; have n0_ := Amk (below_step (by repeat (first | (with_reducible first | exact HB.out | apply bal | apply pw_below_drewN | apply bdr) | exact HB.out)) hb); clear HB; have HB := n0_; clear n0_; (try clear hb); (try clear hb2); (try clear hk); (try clear hi)))
   go_ret2
   exact ⟨by first | rfl | (simp [errW_none, errW_some] <;> rfl) | (simp [*, errW_none, errW_some] <;> rfl), by repeat (first | (with_reducible first | exact HB.out | apply bal | apply pw_below_drewN | apply bdr) | exact HB.out)⟩
  ·
   replace c8 := Bool.eq_false_iff.mpr c8
   subst c8
   have H1 : (some ((⟨#[]⟩ : ByteArray), 30)) = some (r1, r2) := by rw [if_neg (show ¬ (false = true) by decide)] at H; exact H
   clear H
   have H := H1
   clear H1
   simp only [Option.some.injEq, Prod.mk.injEq] at H
   obtain ⟨rfl, rfl⟩ := H
   go_enter Tryz.func44, Tryz.ntmps44
   go_wp2_with (first | ((with_reducible refine gate_callee (f := 100) rfl ?_); refine goesL_ (some 6) rfl rfl Tryz.func100 (by kernel_rfl) rfl #[.string a0, .string (⟨#[47, 43]⟩ : ByteArray), .string (⟨#[46, 42]⟩ : ByteArray)] rfl (by (try simp only [List.map_toArray, List.map_cons, List.map_nil]); first | done | rfl | (simp only [List.length_drop, List.length_take]; rfl)) ?_; (with_reducible refine (topic_turned.calls a0 (⟨#[47, 43]⟩ : ByteArray) (⟨#[46, 42]⟩ : ByteArray) t106 _ ?side1 A2.out).mono ?_); (case side1 => exact WI.below HG.out (by repeat (first | (with_reducible first | exact HB.out | apply bal | apply pw_below_drewN | apply bdr) | exact HB.out))); rintro e w12 ⟨rfl, hb⟩; refine ⟨_, rfl, ?_⟩; have n0_ := Amk (below_step (by repeat (first | (with_reducible first | exact HB.out | apply bal | apply pw_below_drewN | apply bdr) | exact HB.out)) hb); clear HB; have HB := n0_; clear n0_; (try clear hb); (try clear hb2); (try clear hk); (try clear hi)) | ((with_reducible refine gate_callee (f := 101) rfl ?_); refine goesL_ (some 8) rfl rfl Tryz.func101 (by kernel_rfl) rfl #[.string a0, .string (⟨#[46, 42]⟩ : ByteArray)] rfl (by (try simp only [List.map_toArray, List.map_cons, List.map_nil]); first | done | rfl | (simp only [List.length_drop, List.length_take]; rfl)) ?_; (with_reducible refine (strings_ContainsAny.calls a0 (⟨#[46, 42]⟩ : ByteArray) false _ ?side1 A3.out).mono ?_); (case side1 => exact WI.below HG.out (by repeat (first | (with_reducible first | exact HB.out | apply bal | apply pw_below_drewN | apply bdr) | exact HB.out))); rintro e w13 ⟨rfl, hb⟩; refine ⟨_, rfl, ?_⟩; have n0_ := Amk (below_step (by repeat (first | (with_reducible first | exact HB.out | apply bal | apply pw_below_drewN | apply bdr) | exact HB.out)) hb); clear HB; have HB := n0_; clear n0_; (try clear hb); (try clear hb2); (try clear hk); (try clear hi)) | (go_at_call 55; (with_reducible refine (topic_Pattern.calls k t106 false _ ?side1 A7.out).mono ?_); (case side1 => exact WI.below HG.out (by repeat (first | (with_reducible first | exact HB.out | apply bal | apply pw_below_drewN | apply bdr) | exact HB.out))); rintro e w14 ⟨rfl, hb⟩; have n0_ := Amk (below_step (by repeat (first | (with_reducible first | exact HB.out | apply bal | apply pw_below_drewN | apply bdr) | exact HB.out)) hb); clear HB; have HB := n0_; clear n0_; (try clear hb); (try clear hb2); (try clear hk); (try clear hi)))
   go_ret2
   exact ⟨by first | rfl | (simp [errW_none, errW_some] <;> rfl) | (simp [*, errW_none, errW_some] <;> rfl), by repeat (first | (with_reducible first | exact HB.out | apply bal | apply pw_below_drewN | apply bdr) | exact HB.out)⟩
def topic_Slashes.f (k : Nat) (a0 : ByteArray) : Option (ByteArray × Int) := (topic_Pattern.f k a0).bind fun t109 => (if t109 = true then ((topic_turned.f a0 (⟨#[46, 42]⟩ : ByteArray) (⟨#[47, 43]⟩ : ByteArray)).bind fun t110 => (some (t110, 0))) else (some ((⟨#[]⟩ : ByteArray), 30)))
theorem topic_Slashes.mono : ∀ a0 k, LeO (topic_Slashes.f k a0) (topic_Slashes.f (k + 1) a0) := by
 intro a0 k
 unfold topic_Slashes.f
 repeat' first
   | (with_reducible exact topic_Pattern.mono _ _)
   | (with_reducible exact LeO.refl _)
   | (with_reducible exact LeO.none _)
   | (with_reducible refine LeO.ite ?_ ?_)
   | (with_reducible refine LeO.bind ?_ (fun _ => ?_))
   | exact topic_Pattern.mono _ _
   | exact LeO.none _
   | refine LeO.ite ?_ ?_
   | refine LeO.bind ?_ (fun _ => ?_)
theorem topic_Slashes.calls (k : Nat) (a0 : ByteArray) (r1 : ByteArray) (r2 : Int) (w : World) (hG : WI w) (h : topic_Slashes.f k a0 = some (r1, r2)) :
  Calls Tryz.prog 57 #[.string a0] w fun e w' => e = .returned (.tuple #[.string r1, .int .i64 r2]) ∧ Below w.heap.size w w' := by
 have HB := Amk (Below.refl w.heap.size w)
 have HG := Amk hG
 clear hG
 have H : ((topic_Pattern.f k a0).bind fun t109 => (if t109 = true then ((topic_turned.f a0 (⟨#[46, 42]⟩ : ByteArray) (⟨#[47, 43]⟩ : ByteArray)).bind fun t110 => (some (t110, 0))) else (some ((⟨#[]⟩ : ByteArray), 30)))) = some (r1, r2) := h
 clear h
 replace H := Option.bind_eq_some_iff.mp H
 obtain ⟨t109, A20, H⟩ := H
 replace H : (if t109 = true then ((topic_turned.f a0 (⟨#[46, 42]⟩ : ByteArray) (⟨#[47, 43]⟩ : ByteArray)).bind fun t110 => (some (t110, 0))) else (some ((⟨#[]⟩ : ByteArray), 30))) = some (r1, r2) := H
 have A2 := Amk A20
 clear A20
 by_cases c3 : t109 = true
 ·
  subst c3
  have H1 : ((topic_turned.f a0 (⟨#[46, 42]⟩ : ByteArray) (⟨#[47, 43]⟩ : ByteArray)).bind fun t110 => (some (t110, 0))) = some (r1, r2) := by rw [if_pos rfl] at H; exact H
  clear H
  have H := H1
  clear H1
  replace H := Option.bind_eq_some_iff.mp H
  obtain ⟨t110, A40, H⟩ := H
  replace H : (some (t110, 0)) = some (r1, r2) := H
  have A4 := Amk A40
  clear A40
  simp only [Option.some.injEq, Prod.mk.injEq] at H
  obtain ⟨rfl, rfl⟩ := H
  go_enter Tryz.func57, Tryz.ntmps57
  go_wp2_with (first | ((with_reducible refine gate_callee (f := 55) rfl ?_); refine goesL_ (some 5) rfl rfl Tryz.func55 (by kernel_rfl) rfl #[.string a0] rfl (by (try simp only [List.map_toArray, List.map_cons, List.map_nil]); first | done | rfl | (simp only [List.length_drop, List.length_take]; rfl)) ?_; (with_reducible refine (topic_Pattern.calls k a0 true _ ?side1 A2.out).mono ?_); (case side1 => exact WI.below HG.out (by repeat (first | (with_reducible first | exact HB.out | apply bal | apply pw_below_drewN | apply bdr) | exact HB.out))); rintro e w5 ⟨rfl, hb⟩; refine ⟨_, rfl, ?_⟩; have n0_ := Amk (below_step (by repeat (first | (with_reducible first | exact HB.out | apply bal | apply pw_below_drewN | apply bdr) | exact HB.out)) hb); clear HB; have HB := n0_; clear n0_; (try clear hb); (try clear hb2); (try clear hk); (try clear hi)) | ((with_reducible refine gate_callee (f := 100) rfl ?_); refine goesL_ (some 8) rfl rfl Tryz.func100 (by kernel_rfl) rfl #[.string a0, .string (⟨#[46, 42]⟩ : ByteArray), .string (⟨#[47, 43]⟩ : ByteArray)] rfl (by (try simp only [List.map_toArray, List.map_cons, List.map_nil]); first | done | rfl | (simp only [List.length_drop, List.length_take]; rfl)) ?_; (with_reducible refine (topic_turned.calls a0 (⟨#[46, 42]⟩ : ByteArray) (⟨#[47, 43]⟩ : ByteArray) t110 _ ?side1 A4.out).mono ?_); (case side1 => exact WI.below HG.out (by repeat (first | (with_reducible first | exact HB.out | apply bal | apply pw_below_drewN | apply bdr) | exact HB.out))); rintro e w6 ⟨rfl, hb⟩; refine ⟨_, rfl, ?_⟩; have n0_ := Amk (below_step (by repeat (first | (with_reducible first | exact HB.out | apply bal | apply pw_below_drewN | apply bdr) | exact HB.out)) hb); clear HB; have HB := n0_; clear n0_; (try clear hb); (try clear hb2); (try clear hk); (try clear hi)))
  go_ret2
  exact ⟨by first | rfl | (simp [errW_none, errW_some] <;> rfl) | (simp [*, errW_none, errW_some] <;> rfl), by repeat (first | (with_reducible first | exact HB.out | apply bal | apply pw_below_drewN | apply bdr) | exact HB.out)⟩
 ·
  replace c3 := Bool.eq_false_iff.mpr c3
  subst c3
  have H1 : (some ((⟨#[]⟩ : ByteArray), 30)) = some (r1, r2) := by rw [if_neg (show ¬ (false = true) by decide)] at H; exact H
  clear H
  have H := H1
  clear H1
  simp only [Option.some.injEq, Prod.mk.injEq] at H
  obtain ⟨rfl, rfl⟩ := H
  go_enter Tryz.func57, Tryz.ntmps57
  go_wp2_with (first | ((with_reducible refine gate_callee (f := 55) rfl ?_); refine goesL_ (some 5) rfl rfl Tryz.func55 (by kernel_rfl) rfl #[.string a0] rfl (by (try simp only [List.map_toArray, List.map_cons, List.map_nil]); first | done | rfl | (simp only [List.length_drop, List.length_take]; rfl)) ?_; (with_reducible refine (topic_Pattern.calls k a0 false _ ?side1 A2.out).mono ?_); (case side1 => exact WI.below HG.out (by repeat (first | (with_reducible first | exact HB.out | apply bal | apply pw_below_drewN | apply bdr) | exact HB.out))); rintro e w7 ⟨rfl, hb⟩; refine ⟨_, rfl, ?_⟩; have n0_ := Amk (below_step (by repeat (first | (with_reducible first | exact HB.out | apply bal | apply pw_below_drewN | apply bdr) | exact HB.out)) hb); clear HB; have HB := n0_; clear n0_; (try clear hb); (try clear hb2); (try clear hk); (try clear hi)))
  go_ret2
  exact ⟨by first | rfl | (simp [errW_none, errW_some] <;> rfl) | (simp [*, errW_none, errW_some] <;> rfl), by repeat (first | (with_reducible first | exact HB.out | apply bal | apply pw_below_drewN | apply bdr) | exact HB.out)⟩
def prop_Name.f (a0 : ByteArray) : Option (Bool) := if a0.toList = ([] : List UInt8) then (some false) else (if (a0.size : Int) ≤ 16 then ((strings_Trim.f a0 (⟨#[97, 98, 99, 100, 101, 102, 103, 104, 105, 106, 107, 108, 109, 110, 111, 112, 113, 114, 115, 116, 117, 118, 119, 120, 121, 122, 48, 49, 50, 51, 52, 53, 54, 55, 56, 57, 45, 95]⟩ : ByteArray)).bind fun t111 => (some (t111.toList == ([] : List UInt8)))) else (some false))
theorem prop_Name.calls (a0 : ByteArray) (r : Bool) (w : World) (hG : WI w) (h : prop_Name.f a0 = some r) :
  Calls Tryz.prog 198 #[.string a0] w fun e w' => e = .returned (.bool r) ∧ Below w.heap.size w w' := by
 have HB := Amk (Below.refl w.heap.size w)
 have HG := Amk hG
 clear hG
 have H : (if a0.toList = ([] : List UInt8) then (some false) else (if (a0.size : Int) ≤ 16 then ((strings_Trim.f a0 (⟨#[97, 98, 99, 100, 101, 102, 103, 104, 105, 106, 107, 108, 109, 110, 111, 112, 113, 114, 115, 116, 117, 118, 119, 120, 121, 122, 48, 49, 50, 51, 52, 53, 54, 55, 56, 57, 45, 95]⟩ : ByteArray)).bind fun t111 => (some (t111.toList == ([] : List UInt8)))) else (some false))) = some r := h
 clear h
 by_cases c2 : a0.toList = ([] : List UInt8)
 ·
  rw [if_pos c2] at H
  have c2b0 : (a0.toList == ([] : List UInt8)) = true := beq_iff_eq.mpr c2
  have c2b1 : (a0.toList != ([] : List UInt8)) = false := bne_eq_false_iff_eq.mpr c2
  clear c2
  obtain rfl := Option.some.inj H
  go_enter Tryz.func198, Tryz.ntmps198
  go_wp2
  go_ret
  exact ⟨by first | rfl | (simp [errW_none, errW_some] <;> rfl) | (simp [*, errW_none, errW_some] <;> rfl), by repeat (first | (with_reducible first | exact HB.out | apply bal | apply pw_below_drewN | apply bdr) | exact HB.out)⟩
 ·
  rw [if_neg c2] at H
  have c2b0 : (a0.toList == ([] : List UInt8)) = false := beq_eq_false_iff_ne.mpr c2
  have c2b1 : (a0.toList != ([] : List UInt8)) = true := bne_iff_ne.mpr c2
  by_cases c3 : (a0.size : Int) ≤ 16
  ·
   rw [if_pos c3] at H
   have c3b0 : decide ((a0.size : Int) ≤ 16) = true := decide_eq_true c3
   have c3b1 : decide (a0.size ≤ 16) = true := decide_eq_true (by omega)
   clear c3
   replace H := Option.bind_eq_some_iff.mp H
   obtain ⟨t111, A40, H⟩ := H
   replace H : (some (t111.toList == ([] : List UInt8))) = some r := H
   have A4 := Amk A40
   clear A40
   obtain rfl := Option.some.inj H
   go_enter Tryz.func198, Tryz.ntmps198
   go_wp2_with (first | (go_at_call 161; (with_reducible refine (strings_Trim.calls a0 (⟨#[97, 98, 99, 100, 101, 102, 103, 104, 105, 106, 107, 108, 109, 110, 111, 112, 113, 114, 115, 116, 117, 118, 119, 120, 121, 122, 48, 49, 50, 51, 52, 53, 54, 55, 56, 57, 45, 95]⟩ : ByteArray) t111 _ ?side1 A4.out).mono ?_); (case side1 => exact WI.below HG.out (by repeat (first | (with_reducible first | exact HB.out | apply bal | apply pw_below_drewN | apply bdr) | exact HB.out))); rintro e w5 ⟨rfl, hb⟩; have n0_ := Amk (below_step (by repeat (first | (with_reducible first | exact HB.out | apply bal | apply pw_below_drewN | apply bdr) | exact HB.out)) hb); clear HB; have HB := n0_; clear n0_; (try clear hb); (try clear hb2); (try clear hk); (try clear hi)))
   go_ret
   exact ⟨by first | rfl | (simp [errW_none, errW_some] <;> rfl) | (simp [*, errW_none, errW_some] <;> rfl), by repeat (first | (with_reducible first | exact HB.out | apply bal | apply pw_below_drewN | apply bdr) | exact HB.out)⟩
  ·
   rw [if_neg c3] at H
   have c3b0 : decide ((a0.size : Int) ≤ 16) = false := decide_eq_false c3
   have c3b1 : decide (a0.size ≤ 16) = false := decide_eq_false (by omega)
   clear c3
   obtain rfl := Option.some.inj H
   go_enter Tryz.func198, Tryz.ntmps198
   go_wp2
   go_ret
   exact ⟨by first | rfl | (simp [errW_none, errW_some] <;> rfl) | (simp [*, errW_none, errW_some] <;> rfl), by repeat (first | (with_reducible first | exact HB.out | apply bal | apply pw_below_drewN | apply bdr) | exact HB.out)⟩
def mqtt_passed.f (a0 : Int) (a1 : Int) : Option (Bool) := if a0 = 1 then (some (a1 == 33)) else (if a0 = 0 then (some (a1 != 20)) else (if a0 = 3 then (some (a1 != 20)) else (some false)))
theorem mqtt_passed.calls (a0 : Int) (a1 : Int) (r : Bool) (w : World) (h : mqtt_passed.f a0 a1 = some r) :
  Calls Tryz.prog 74 #[.int .i64 a0, .int .i64 a1] w fun e w' => e = .returned (.bool r) ∧ Drawn0 w w' := by
 have H : (if a0 = 1 then (some (a1 == 33)) else (if a0 = 0 then (some (a1 != 20)) else (if a0 = 3 then (some (a1 != 20)) else (some false)))) = some r := h
 clear h
 by_cases c3 : a0 = 1
 ·
  rw [if_pos c3] at H
  have c3b0 : (a0 == 1) = true := beq_iff_eq.mpr c3
  have c3b1 : (a0 != 1) = false := bne_eq_false_iff_eq.mpr c3
  clear c3
  obtain rfl := Option.some.inj H
  go_enter Tryz.func74, Tryz.ntmps74
  go_wp2
  go_ret
  exact ⟨by first | rfl | (simp; done) | (simp [*]; done), by repeat (first | exact Drawn0.refl _ | apply Drawn0.step)⟩
 ·
  rw [if_neg c3] at H
  have c3b0 : (a0 == 1) = false := beq_eq_false_iff_ne.mpr c3
  have c3b1 : (a0 != 1) = true := bne_iff_ne.mpr c3
  by_cases c4 : a0 = 0
  ·
   rw [if_pos c4] at H
   have c4b0 : (a0 == 0) = true := beq_iff_eq.mpr c4
   have c4b1 : (a0 != 0) = false := bne_eq_false_iff_eq.mpr c4
   clear c4
   obtain rfl := Option.some.inj H
   go_enter Tryz.func74, Tryz.ntmps74
   go_wp2
   go_ret
   exact ⟨by first | rfl | (simp; done) | (simp [*]; done), by repeat (first | exact Drawn0.refl _ | apply Drawn0.step)⟩
  ·
   rw [if_neg c4] at H
   have c4b0 : (a0 == 0) = false := beq_eq_false_iff_ne.mpr c4
   have c4b1 : (a0 != 0) = true := bne_iff_ne.mpr c4
   by_cases c5 : a0 = 3
   ·
    rw [if_pos c5] at H
    have c5b0 : (a0 == 3) = true := beq_iff_eq.mpr c5
    have c5b1 : (a0 != 3) = false := bne_eq_false_iff_eq.mpr c5
    clear c5
    obtain rfl := Option.some.inj H
    go_enter Tryz.func74, Tryz.ntmps74
    go_wp2
    go_ret
    exact ⟨by first | rfl | (simp; done) | (simp [*]; done), by repeat (first | exact Drawn0.refl _ | apply Drawn0.step)⟩
   ·
    rw [if_neg c5] at H
    have c5b0 : (a0 == 3) = false := beq_eq_false_iff_ne.mpr c5
    have c5b1 : (a0 != 3) = true := bne_iff_ne.mpr c5
    obtain rfl := Option.some.inj H
    go_enter Tryz.func74, Tryz.ntmps74
    go_wp2
    go_ret
    exact ⟨by first | rfl | (simp; done) | (simp [*]; done), by repeat (first | exact Drawn0.refl _ | apply Drawn0.step)⟩
def mqtt_queue.f (a0 : ByteArray) : Option (ByteArray) := if 2 + a0.size ≤ 9223372036854775807 then (some ((⟨#[109, 45]⟩ : ByteArray) ++ a0)) else (none)
theorem mqtt_queue.calls (a0 : ByteArray) (r : ByteArray) (w : World) (h : mqtt_queue.f a0 = some r) :
  Calls Tryz.prog 85 #[.string a0] w fun e w' => e = .returned (.string r) ∧ Drawn0 w w' := by
 have H : (if 2 + a0.size ≤ 9223372036854775807 then (some ((⟨#[109, 45]⟩ : ByteArray) ++ a0)) else (none)) = some r := h
 clear h
 by_cases c2 : 2 + a0.size ≤ 9223372036854775807
 ·
  rw [if_pos c2] at H
  have c2b0 := eq_true c2
  have c2b1 : decide (2 + a0.size ≤ 9223372036854775807) = true := decide_eq_true c2
  try have c2b2 : (9223372036854775807 < 2 + a0.size) = False := eq_false (Nat.not_lt.2 c2)
  obtain rfl := Option.some.inj H
  go_enter Tryz.func85, Tryz.ntmps85
  go_wp2
  go_ret
  exact ⟨by first | rfl | (simp; done) | (simp [*]; done), by repeat (first | exact Drawn0.refl _ | apply Drawn0.step)⟩
 ·
  rw [if_neg c2] at H
  exact absurd H (by simp)
end Go.Proofs.YtednegmjjjdinaaGreatDoor.QT
namespace Go.Proofs.YtednegmjjjdinaaGreatDoor.M
open Go
def sub (a x b y c : UInt8) : UInt8 := if c = a then x else if c = b then y else c
def asc (l : List UInt8) : Prop := ∀ x ∈ l, x.toNat < 128
theorem letter_asc (c : UInt8) (h : isLetter c = true) : c.toNat < 128 ∧ c ≠ 47 ∧ c ≠ 43 ∧ c ≠ 46 ∧ c ≠ 42 := by
 have : ∀ x : Fin 256, isLetter (UInt8.ofNat x.val) = true → (UInt8.ofNat x.val).toNat < 128 ∧ UInt8.ofNat x.val ≠ 47 ∧ UInt8.ofNat x.val ≠ 43 ∧ UInt8.ofNat x.val ≠ 46 ∧ UInt8.ofNat x.val ≠ 42 := by decide +kernel
 have k := this ⟨c.toNat, c.toNat_lt⟩
 simp only [UInt8.ofNat_toNat] at k
 exact k h
theorem inter_mem (l : List (List UInt8)) (x : UInt8) (h : x ∈ [46].intercalate l) : x = 46 ∨ ∃ w ∈ l, x ∈ w := by
 induction l with
 | nil => simp [List.intercalate] at h
 | cons w l ih =>
  cases l with
  | nil => simp [List.intercalate] at h; exact .inr ⟨w, by simp, h⟩
  | cons y l =>
   have e : ([46] : List UInt8).intercalate (w :: y :: l) = w ++ 46 :: [46].intercalate (y :: l) := by simp [List.intercalate]
   rw [e] at h
   rcases List.mem_append.1 h with h | h
   ·
    exact .inr ⟨w, by simp, h⟩
   ·
    rcases List.mem_cons.1 h with h | h
    ·
     exact .inl h
    ·
     rcases ih h with h | ⟨u, hu, h⟩
     ·
      exact .inl h
     ·
      exact .inr ⟨u, List.mem_cons_of_mem _ hu, h⟩
theorem patW_mem (p : List (List UInt8)) (h : patW p = true) : ∀ w ∈ p, isName w = true ∨ w = [42] ∨ w = [35] := by
 induction p with
 | nil => intro w hw; simp at hw
 | cons u p ih =>
  rw [patW, Bool.and_eq_true] at h
  intro w hw
  rcases List.mem_cons.1 hw with rfl | hw
  ·
   have := h.1
   simp at this
   rcases this with h | h | h
   ·
    exact .inl h
   ·
    exact .inr (.inl h)
   ·
    exact .inr (.inr h.1)
  ·
   exact ih h.2 w hw
theorem pat_bytes (l : List UInt8) (h : patB l = true) : ∀ x ∈ l, x.toNat < 128 ∧ x ≠ 47 ∧ x ≠ 43 := by
 have hw : patW (words l) = true := by unfold patB at h; simp at h; exact h.2.2
 intro x hx
 rw [← words_join l] at hx
 rcases inter_mem _ _ hx with rfl | ⟨w, hw2, hx2⟩
 ·
  decide
 ·
  rcases patW_mem _ hw w hw2 with h | rfl | rfl
  ·
   unfold isName at h
   simp only [Bool.and_eq_true, List.all_eq_true] at h
   have := letter_asc x (h.2 x hx2)
   exact ⟨this.1, this.2.1, this.2.2.1⟩
  ·
   simp at hx2; subst hx2; decide
  ·
   simp at hx2; subst hx2; decide
theorem turn_sub (p q p' q' c : UInt8) : Ext.turn p q p' q' (c.toNat : Int) = ((sub p p' q q' c).toNat : Int) := by
 unfold Ext.turn sub
 by_cases h1 : c = p
 ·
  subst h1; simp
 ·
  have : ¬ ((c.toNat : Int) = (p.toNat : Int)) := fun e => h1 (UInt8.toNat_inj.1 (by omega))
  rw [if_neg this, if_neg h1]
  by_cases h2 : c = q
  ·
   subst h2; simp
  ·
   have : ¬ ((c.toNat : Int) = (q.toNat : Int)) := fun e => h2 (UInt8.toNat_inj.1 (by omega))
   rw [if_neg this, if_neg h2]
theorem head_get (b : UInt8) (l : List UInt8) : (⟨(b :: l).toArray⟩ : ByteArray).get! 0 = b := by simp [ByteArray.get!]
theorem mapGo_asc (p q p' q' : UInt8) (hp' : p'.toNat < 128) (hq' : q'.toNat < 128) (n : Nat) : ∀ l : List UInt8, l.length ≤ n → asc l → Lib.mapGoD (Ext.turn p q p' q') n l = l.map (sub p p' q q') := by
 induction n with
 | zero => intro l hl _; obtain rfl : l = [] := List.length_eq_zero_iff.1 (by omega); rfl
 | succ n ih =>
  intro l hl ha
  cases l with
  | nil => rfl
  | cons b l =>
   have hb := ha b (by simp)
   have hd : Lib.decodeL (b :: l) = (b.toNat, 1) := by
    unfold Lib.decodeL
    rw [Ext.decode_lo _ _ (by rw [head_get]; exact hb), head_get]
   unfold Lib.mapGoD
   rw [if_neg (by simp), hd]
   simp only []
   rw [turn_sub, if_pos (by omega), List.drop_one, List.tail_cons, ih l (by simp at hl; omega) (fun x hx => ha x (List.mem_cons_of_mem _ hx)), List.map_cons]
   have hs : (sub p p' q q' b).toNat < 128 := by unfold sub; split; exact hp'; split; exact hq'; exact hb
   unfold Lib.encodeRune
   rw [Lib.encodeRuneZ_one (by omega) (by omega)]
   simp
theorem mapD_asc (p q p' q' : UInt8) (hp' : p'.toNat < 128) (hq' : q'.toNat < 128) (l : List UInt8) (ha : asc l) : Ext.turnedL p q p' q' l = l.map (sub p p' q q') :=
 mapGo_asc p q p' q' hp' hq' l.length l (Nat.le_refl _) ha
theorem byte_hi (z : Int) (h : 128 ≤ z) (h2 : z < 256) : 128 ≤ (z.toNat.toUInt8).toNat := by
 simp; omega
theorem encode_hi (r : Int) (h : 128 ≤ r) (h2 : r ≤ 1114111) : ∃ b ∈ Lib.encodeRune r, 128 ≤ b.toNat := by
 have key : ∀ z : Int, z ∈ Lib.encodeRuneZ r → 128 ≤ z → z < 256 → ∃ b ∈ Lib.encodeRune r, 128 ≤ b.toNat := fun z hz h1 h2 =>
  ⟨z.toNat.toUInt8, List.mem_map.2 ⟨z, hz, rfl⟩, byte_hi z h1 h2⟩
 unfold Lib.encodeRuneZ at key
 split at key
 ·
  omega
 ·
  split at key
  ·
   exact key _ (List.mem_cons_self) (by omega) (by omega)
  ·
   split at key
   ·
    exact key _ (List.mem_cons_self) (by omega) (by omega)
   ·
    split at key
    ·
     exact key _ (List.mem_cons_self) (by omega) (by omega)
    ·
     exact key 239 (List.mem_cons_self) (by omega) (by omega)
theorem mapGo_hi (p q p' q' : UInt8) (hp : p.toNat < 128) (hq : q.toNat < 128) (n : Nat) : ∀ l : List UInt8, l.length ≤ n → ¬ asc l → ∃ b ∈ Lib.mapGoD (Ext.turn p q p' q') n l, 128 ≤ b.toNat := by
 induction n with
 | zero => intro l hl ha; obtain rfl : l = [] := List.length_eq_zero_iff.1 (by omega); exact absurd (fun x hx => by simp at hx) ha
 | succ n ih =>
  intro l hl ha
  cases l with
  | nil => exact absurd (fun x hx => by simp at hx) ha
  | cons b l =>
   unfold Lib.mapGoD
   rw [if_neg (by simp)]
   by_cases hb : b.toNat < 128
   ·
    have hd : Lib.decodeL (b :: l) = (b.toNat, 1) := by
     unfold Lib.decodeL
     rw [Ext.decode_lo _ _ (by rw [head_get]; exact hb), head_get]
    rw [hd]
    simp only []
    have hl2 : ¬ asc l := fun h => ha (by
     intro x hx
     rcases List.mem_cons.1 hx with rfl | hx
     ·
      exact hb
     ·
      exact h x hx)
    obtain ⟨x, hx, h2⟩ := ih l (by simp at hl; omega) hl2
    exact ⟨x, List.mem_append_right _ (by rw [List.drop_one, List.tail_cons]; exact hx), h2⟩
   ·
    have hd := Ext.decode_hi ⟨(b :: l).toArray⟩ 0 (by rw [head_get]; omega)
    change 128 ≤ (Lib.decodeL (b :: l)).1 ∧ (Lib.decodeL (b :: l)).1 ≤ 1114111 ∧ _ at hd
    obtain ⟨d1, d2, _⟩ := hd
    have ht : Ext.turn p q p' q' ((Lib.decodeL (b :: l)).1 : Int) = ((Lib.decodeL (b :: l)).1 : Int) := by
     unfold Ext.turn; rw [if_neg (by omega), if_neg (by omega)]
    rw [ht, if_pos (by omega)]
    obtain ⟨x, hx, h2⟩ := encode_hi ((Lib.decodeL (b :: l)).1 : Int) (by omega) (by omega)
    exact ⟨x, List.mem_append_left _ hx, h2⟩
theorem mapD_hi (p q p' q' : UInt8) (hp : p.toNat < 128) (hq : q.toNat < 128) (l : List UInt8) (ha : ¬ asc l) : patB (Ext.turnedL p q p' q' l) = false := by
 obtain ⟨b, hb, h2⟩ := mapGo_hi p q p' q' hp hq l.length l (Nat.le_refl _) ha
 cases h : patB (Ext.turnedL p q p' q' l) with
 | false => rfl
 | true => exact absurd (pat_bytes _ h b hb).1 (by omega)
theorem sub_hi (a x b y : UInt8) (ha : a.toNat < 128) (hb : b.toNat < 128) (l : List UInt8) (h : ¬ asc l) : patB (l.map (sub a x b y)) = false := by
 cases hp : patB (l.map (sub a x b y)) with
 | false => rfl
 | true =>
  exfalso
  apply h
  intro c hc
  have := (pat_bytes _ hp (sub a x b y c) (List.mem_map.2 ⟨c, hc, rfl⟩)).1
  unfold sub at this
  by_cases h1 : c = a
  ·
   rw [h1]; exact ha
  ·
   rw [if_neg h1] at this
   by_cases h2 : c = b
   ·
    rw [h2]; exact hb
   ·
    rw [if_neg h2] at this; exact this
def dotsB (l : List UInt8) : Option (List UInt8) := if Ext.hasDot l = true then none else if patB (l.map (sub 47 46 43 42)) = true then some (l.map (sub 47 46 43 42)) else none
def slashB (l : List UInt8) : Option (List UInt8) := if patB l = true then some (l.map (sub 46 47 42 43)) else none
end Go.Proofs.YtednegmjjjdinaaGreatDoor.M
namespace Go.Proofs.YtednegmjjjdinaaGreatDoor.U
open Go.RowKit Go.Proofs.YtednegmjjjdinaaGreatDoorW.PrintWords Go.Proofs.YtednegmjjjdinaaGreatDoorW.PrintLast Go.Proofs.YtednegmjjjdinaaGreatDoor.QT Go.Proofs.YtednegmjjjdinaaGreatDoor.QW Go.Proofs.YtednegmjjjdinaaGreatDoor.Ext Go.Proofs.YtednegmjjjdinaaGreatDoor.M
theorem wsucc (j : Nat) (h : j ≤ 4611686018427387904) : wrap64 ((j : Int) + 1) = ((j + 1 : Nat) : Int) := by
 unfold wrap64; omega
theorem rd_bas (p : List (List UInt8)) (j : Nat) (h : j < p.length) : rdOf ByteArray.empty (bas p) (j : Int) = ⟨p[j].toArray⟩ := by
 simp [rdOf, bas, h]
theorem rd_list (p : List (List UInt8)) (j : Nat) (h : j < p.length) : (rdOf ByteArray.empty (bas p) (j : Int)).toList = p[j] := by
 rw [rd_bas p j h, Lib.toList_data]
theorem ba_list (l : List UInt8) : (⟨l.toArray⟩ : ByteArray).data.toList = l := rfl
theorem take_snoc (l : List UInt8) (i : Nat) (h : i < l.length) : l.take (i + 1) = l.take i ++ [l[i]] := List.take_succ_eq_append_getElem h
def Short (p : List (List UInt8)) : Prop := p.length ≤ 1048577 ∧ ∀ w ∈ p, w.length ≤ 1048576
theorem short_words (s : ByteArray) (hs : s.size ≤ 1048576) : Short (words s.data.toList) := by
 have hl : s.data.toList.length = s.size := (Lib.size_eq s).symm
 have h1 := words_le' s.data.toList
 exact ⟨by omega, fun w hw => by have := words_len _ w hw; omega⟩
theorem wpred (n : Nat) (h : n ≤ 4611686018427387904) : wrap64 ((n : Int) - 1) = (n : Int) - 1 := by unfold wrap64; omega
theorem patW_drop (p : List (List UInt8)) (i : Nat) (h : i < p.length) :
  patW (p.drop i) = ((isName p[i] || (p[i] == [42] || (p[i] == [35] && decide (i + 1 = p.length)))) && patW (p.drop (i + 1))) := by
 rw [List.drop_eq_getElem_cons h, patW]
 congr 3
 congr 1
 rw [Bool.eq_iff_iff, decide_eq_true_iff, List.isEmpty_iff, List.drop_eq_nil_iff]
 omega
theorem word_now (w : List UInt8) : topic_word.f ⟨w.toArray⟩ = some (isName w) := word_is ⟨w.toArray⟩
theorem pat_loop (s : ByteArray) (p : List (List UInt8)) (hp : Short p) (d : Nat) : ∀ i : Nat, i + d = p.length →
  Ev (fun k => topic_Pattern.l0 k s (bas p) (bas p) (p.length : Int) (i : Int)) (patW (p.drop i) && (decide (s.size ≤ 64) && decide (p.length ≤ 8))) := by
 have hpl := hp.1
 induction d with
 | zero =>
  intro i hi
  refine Ev.step (f := fun k => some (decide (s.size ≤ 64) && decide (p.length ≤ 8))) (fun k => ?_) ?_
  ·
   simp only [topic_Pattern.l0]
   rw [if_neg (by omega), bas_length]
   by_cases h : s.size ≤ 64
   ·
    rw [if_pos (by omega), decide_eq_true h, Bool.true_and]
    congr 1
    rw [Bool.eq_iff_iff, decide_eq_true_iff, decide_eq_true_iff]; omega
   ·
    rw [if_neg (by omega), decide_eq_false h, Bool.false_and]
  ·
   rw [List.drop_of_length_le (by omega)]
   exact Ev.now _
 | succ d ih =>
  intro i hi
  have hlt : i < p.length := by omega
  have IH := ih (i + 1) (by omega)
  refine Ev.step (f := fun k => if isName p[i] = true then topic_Pattern.l0 k s (bas p) (bas p) (p.length : Int) ((i + 1 : Nat) : Int) else if p[i] = [42] then topic_Pattern.l0 k s (bas p) (bas p) (p.length : Int) ((i + 1 : Nat) : Int) else if p[i] = [35] then (if (i : Int) = (p.length : Int) - 1 then topic_Pattern.l0 k s (bas p) (bas p) (p.length : Int) ((i + 1 : Nat) : Int) else some false) else some false) (fun k => ?_) ?_
  ·
   simp only [topic_Pattern.l0]
   rw [if_pos (by omega), if_pos (by omega), if_pos (by rw [bas_length]; omega), rd_list p i hlt, rd_bas p i hlt, wsucc i (by omega), bas_length, wpred _ (by omega), word_now, Option.bind_some]
  ·
   rw [patW_drop p i hlt]
   generalize p[i] = w at *
   by_cases h : isName w = true
   ·
    simp only [h, if_true, Bool.true_or, Bool.true_and]; exact IH
   ·
    simp only [h, Bool.false_eq_true, if_false, Bool.false_or]
    by_cases h42 : w = [42]
    ·
     subst h42
     simp only [if_true, beq_self_eq_true, Bool.true_or, Bool.true_and]
     exact IH
    ·
     have e1 : (w == [42]) = false := by simpa using h42
     simp only [h42, if_false, e1, Bool.false_or]
     by_cases h35 : w = [35]
     ·
      subst h35
      simp only [if_true, beq_self_eq_true, Bool.true_and]
      by_cases hlast : i + 1 = p.length
      ·
       have : (i : Int) = (p.length : Int) - 1 := by omega
       simp only [this, if_true, hlast, decide_true, Bool.true_and] at *
       exact IH
      ·
       have : ¬ ((i : Int) = (p.length : Int) - 1) := by omega
       simp only [this, if_false, hlast, decide_false, Bool.false_and]
       exact Ev.now _
     ·
      have e0 : (w == [35]) = false := by simpa using h35
      simp only [h35, if_false, e0, Bool.false_and]
      exact Ev.now _
theorem split_now (s : ByteArray) (hs : s.size ≤ 1048576) : strings_Split.f s ⟨#[46]⟩ = some (bas (words s.data.toList)) := by
 unfold strings_Split.f; rw [if_pos ⟨rfl, by omega⟩]
theorem pat_ev (s : ByteArray) (hs : s.size ≤ 1048576) : Ev (fun k => topic_Pattern.f k s) (patB s.data.toList) := by
 have hl : s.data.toList.length = s.size := (Lib.size_eq s).symm
 refine Ev.congr (f := fun k => topic_Pattern.l0 k s (bas (words s.data.toList)) (bas (words s.data.toList)) ((words s.data.toList).length : Int) 0) (fun k => ?_) ?_
 ·
  unfold topic_Pattern.f; rw [split_now s hs, Option.bind_some, bas_length]
 ·
  have := pat_loop s _ (short_words s hs) (words s.data.toList).length 0 (by omega)
  rw [List.drop_zero, Bool.and_comm, Bool.and_assoc, ← hl] at this
  exact this
def out : Option (List UInt8) → ByteArray × Int
 | some l => (⟨l.toArray⟩, 0)
 | none => (⟨#[]⟩, 30)
theorem pat_asc (l : List UInt8) (h : patB l = true) : asc l := fun x hx => (pat_bytes l h x hx).1
theorem slashes_ev (s : ByteArray) (hs : s.size ≤ 1048576) : Ev (fun k => topic_Slashes.f k s) (out (slashB s.data.toList)) := by
 refine Ev.congr (fun k => by unfold topic_Slashes.f; rfl) (Ev.bind (pat_ev s hs) ?_)
 unfold slashB
 by_cases h : patB s.data.toList = true
 ·
  have e : topic_turned.f s ⟨#[46, 42]⟩ ⟨#[47, 43]⟩ = some ⟨(s.data.toList.map (sub 46 47 42 43)).toArray⟩ := by
   unfold topic_turned.f
   rw [if_pos (by omega), if_pos ⟨rfl, rfl⟩, mapD_asc 46 42 47 43 (by decide) (by decide) _ (pat_asc _ h)]
  simp only [h, if_true, e, Option.bind_some]
  exact Ev.now _
 ·
  simp only [h, Bool.false_eq_true, if_false]
  exact Ev.now _
theorem pat_ev_any (l : List UInt8) (hl : l.length ≤ 1048576) : Ev (fun k => topic_Pattern.f k ⟨l.toArray⟩) (patB l) := pat_ev ⟨l.toArray⟩ (by rw [Lib.size_eq]; exact hl)
theorem mapGo_len (f : Int → Int) (n : Nat) : ∀ l : List UInt8, (Lib.mapGoD f n l).length ≤ 4 * n := by
 induction n with
 | zero => intro l; simp [Lib.mapGoD]
 | succ n ih =>
  intro l
  unfold Lib.mapGoD
  split
  ·
   simp
  ·
   rw [List.length_append]
   have := ih (l.drop (Lib.decodeL l).2)
   have h4 : ∀ r : Int, (Lib.encodeRune r).length ≤ 4 := by
    intro r
    unfold Lib.encodeRune Lib.encodeRuneZ
    split <;> (try split) <;> (try split) <;> (try split) <;> simp
   split
   ·
    have := h4 (f (Lib.decodeL l).1); omega
   ·
    simp; omega
theorem dots_ev (s : ByteArray) (hs : s.size ≤ 131072) : Ev (fun k => topic_Dots.f k s) (out (dotsB s.data.toList)) := by
 have hl : s.data.toList.length = s.size := (Lib.size_eq s).symm
 have e : topic_turned.f s ⟨#[47, 43]⟩ ⟨#[46, 42]⟩ = some ⟨(turnedL 47 43 46 42 s.data.toList).toArray⟩ := by
  unfold topic_turned.f
  rw [if_pos (by omega), if_neg (by decide), if_pos ⟨rfl, rfl⟩]
 have e2 : strings_ContainsAny.f s ⟨#[46, 42]⟩ = some (hasDot s.data.toList) := by
  unfold strings_ContainsAny.f
  rw [if_pos ⟨rfl, by omega⟩]
 have hlen : (turnedL 47 43 46 42 s.data.toList).length ≤ 1048576 := by
  have := mapGo_len (Ext.turn 47 43 46 42) s.data.toList.length s.data.toList
  unfold turnedL Lib.mapD
  omega
 refine Ev.congr (f := fun k => if hasDot s.data.toList = true then some ((⟨#[]⟩ : ByteArray), (30 : Int)) else (topic_Pattern.f k ⟨(turnedL 47 43 46 42 s.data.toList).toArray⟩).bind fun t => if t = true then some (⟨(turnedL 47 43 46 42 s.data.toList).toArray⟩, 0) else some (⟨#[]⟩, 30)) (fun k => by unfold topic_Dots.f; rw [e, Option.bind_some, e2, Option.bind_some]) ?_
 unfold dotsB
 by_cases h1 : hasDot s.data.toList = true
 ·
  simp only [h1, if_true]; exact Ev.now _
 simp only [h1, Bool.false_eq_true, if_false]
 refine Ev.bind (pat_ev_any _ hlen) ?_
 by_cases ha : asc s.data.toList
 ·
  rw [mapD_asc 47 43 46 42 (by decide) (by decide) _ ha]
  by_cases h2 : patB (s.data.toList.map (sub 47 46 43 42)) = true
  ·
   simp only [h2, if_true]; exact Ev.now _
  ·
   simp only [h2, Bool.false_eq_true, if_false]; exact Ev.now _
 ·
  rw [mapD_hi 47 43 46 42 (by decide) (by decide) _ ha, sub_hi 47 46 43 42 (by decide) (by decide) _ ha]
  simp only [Bool.false_eq_true, if_false]; exact Ev.now _
theorem dots_calls (l : List UInt8) (hl : l.length ≤ 131072) (w : World) (hG : WI w) : Calls Tryz.prog 44 #[.string ⟨l.toArray⟩] w fun e w' => e = .returned (.tuple #[.string (out (dotsB l)).1, .int .i64 (out (dotsB l)).2]) ∧ Below w.heap.size w w' := by
 obtain ⟨k, hk⟩ := (dots_ev ⟨l.toArray⟩ (by simpa [ByteArray.size] using hl)).rounds
 exact topic_Dots.calls k ⟨l.toArray⟩ _ _ w hG hk
theorem slashes_calls (s : ByteArray) (hl : s.size ≤ 1048576) (w : World) (hG : WI w) : Calls Tryz.prog 57 #[.string s] w fun e w' => e = .returned (.tuple #[.string (out (slashB s.data.toList)).1, .int .i64 (out (slashB s.data.toList)).2]) ∧ Below w.heap.size w w' := by
 obtain ⟨k, hk⟩ := (slashes_ev s hl).rounds
 exact topic_Slashes.calls k s _ _ w hG hk
theorem name_is (s : ByteArray) : prop_Name.f s = some (isName s.data.toList) := word_is s
theorem name_calls (s : ByteArray) (w : World) (hG : WI w) : Calls Tryz.prog 198 #[.string s] w fun e w' => e = .returned (.bool (isName s.data.toList)) ∧ Below w.heap.size w w' :=
 prop_Name.calls s _ w hG (name_is s)
end Go.Proofs.YtednegmjjjdinaaGreatDoor.U
namespace Go.Proofs.YtednegmjjjdinaaGreatDoor.QG
open Go.RowKit Go.Proofs.YtednegmjjjdinaaGreatDoor.Ext Go.Proofs.YtednegmjjjdinaaGreatDoor.QW Go.Proofs.YtednegmjjjdinaaGreatDoor.K Go.Proofs.YtednegmjjjdinaaGreatDoorW.PrintWords Go.Proofs.YtednegmjjjdinaaGreatDoorW.PrintLast Go.Proofs.YtednegmjjjdinaaGreatDoorW.PrintMore
attribute [local go_sem] max2_int min2_int max_two min_two max_three min_three max_four min_four
set_option linter.unusedVariables false
set_option linter.unusedSimpArgs false
def errW : Option Int → Value
 | none => .nilIface
 | some c => .iface 0 (.int .i64 c)
theorem errW_none : errW none = .nilIface := rfl
theorem errW_some (c : Int) : errW (some c) = .iface 0 (.int .i64 c) := rfl
theorem info9 : (Tryz.prog.info? 9).map (fun i => (i.zero, i.size, i.bytes)) = some (some (.string ⟨#[]⟩), 1, 16) := by kernel_rfl
end Go.Proofs.YtednegmjjjdinaaGreatDoor.QG
namespace Go.Proofs.YtednegmjjjdinaaGreatDoor.QG
open Go.RowKit Go.Proofs.YtednegmjjjdinaaGreatDoor.Ext Go.Proofs.YtednegmjjjdinaaGreatDoor.QW Go.Proofs.YtednegmjjjdinaaGreatDoor.K Go.Proofs.YtednegmjjjdinaaGreatDoorW.PrintWords Go.Proofs.YtednegmjjjdinaaGreatDoorW.PrintLast Go.Proofs.YtednegmjjjdinaaGreatDoorW.PrintMore
attribute [local go_sem] max2_int min2_int max_two min_two max_three min_three max_four min_four
set_option linter.unusedVariables false
set_option linter.unusedSimpArgs false
def trivetref08_Words.l0 : Nat → ByteArray → Int → List ByteArray → Int → Option (List ByteArray)
 | 0, _, _, _, _ => none
 | k + 1, x0, x1, x5, x6 => if x6 < (x0.size : Int) then (if 0 ≤ x6 then (if (bt x0 x6) = x1 then (if x5.length < 8796093022208 then (trivetref08_Words.l0 k x0 x1 (x5 ++ [(⟨#[]⟩ : ByteArray)]) (wrap64 (x6 + 1))) else (none)) else (if 0 ≤ (wrap64 ((x5.length : Int) - 1)) then (if (wrap64 ((x5.length : Int) - 1)) < (x5.length : Int) then (if x6 ≤ (wrap64 (x6 + 1)) then (if (wrap64 (x6 + 1)) ≤ (x0.size : Int) then (if (rdOf ByteArray.empty x5 (wrap64 ((x5.length : Int) - 1))).size + (x0.extract (x6 : Int).toNat ((wrap64 (x6 + 1)) : Int).toNat).size ≤ 9223372036854775807 then (trivetref08_Words.l0 k x0 x1 (x5.set ((wrap64 ((x5.length : Int) - 1)) : Int).toNat ((rdOf ByteArray.empty x5 (wrap64 ((x5.length : Int) - 1))) ++ (x0.extract (x6 : Int).toNat ((wrap64 (x6 + 1)) : Int).toNat))) (wrap64 (x6 + 1))) else (none)) else (none)) else (none)) else (none)) else (none))) else (none)) else (some x5)
def trivetref08_Words.f (k : Nat) (a0 : ByteArray) (a1 : Int) : Option (List ByteArray) := trivetref08_Words.l0 k a0 a1 (([(⟨#[]⟩ : ByteArray)] : List ByteArray)) 0
theorem trivetref08_Words.mono_l : ∀ k, (∀ y0 y1 y2 y3, LeO (trivetref08_Words.l0 k y0 y1 y2 y3) (trivetref08_Words.l0 (k + 1) y0 y1 y2 y3))
 | 0 => fun _ _ _ _ r h => by simp [trivetref08_Words.l0] at h
 | k + 1 => by
  have ih0 := trivetref08_Words.mono_l k
  ·
   intro y0 y1 y2 y3
   unfold trivetref08_Words.l0
   repeat' first
   | (with_reducible exact ih0 _ _ _ _)
   | (with_reducible exact LeO.refl _)
   | (with_reducible exact LeO.none _)
   | (with_reducible refine LeO.ite ?_ ?_)
   | (with_reducible refine LeO.bind ?_ (fun _ => ?_))
   | exact ih0 _ _ _ _
   | exact LeO.none _
   | refine LeO.ite ?_ ?_
   | refine LeO.bind ?_ (fun _ => ?_)
theorem trivetref08_Words.mono : ∀ a0 a1 k, LeO (trivetref08_Words.f k a0 a1) (trivetref08_Words.f (k + 1) a0 a1) := by
 intro a0 a1 k
 have ih0 := trivetref08_Words.mono_l k
 unfold trivetref08_Words.f
 repeat' first
   | (with_reducible exact ih0 _ _ _ _)
   | (with_reducible exact LeO.refl _)
   | (with_reducible exact LeO.none _)
   | (with_reducible refine LeO.ite ?_ ?_)
   | (with_reducible refine LeO.bind ?_ (fun _ => ?_))
   | exact ih0 _ _ _ _
   | exact LeO.none _
   | refine LeO.ite ?_ ?_
   | refine LeO.bind ?_ (fun _ => ?_)
def trivetref08_Words.T7 : Bool × List (List Nat × List Nat) := (true, [([], []), ([], []), ([1], [1]), ([2], [2]), ([], []), ([], []), ([5], [5]), ([6], [6]), ([4, 7], [4, 7]), ([8], [8]), ([], []), ([], []), ([], []), ([12], [12]), ([10, 11, 13], [10, 11, 13]), ([9, 14], [9, 14]), ([0, 3, 0, 1, 2, 3, 4, 5, 6, 7, 8, 9, 10, 11, 12, 13, 14, 15], [0, 3]), ([16, 15, 0, 1, 2, 3, 4, 5, 6, 7, 8, 9, 10, 11, 12, 13, 14, 15], [15, 16])])
def trivetref08_Words.B7 : List Nat := [0, 0, 2, 6, 0, 0, 32, 96, 240, 496, 0, 0, 0, 4096, 15360, 32752, 65535, 131071]
theorem trivetref08_Words.tab7 : rtab .any (opsOf Tryz.f109 7) = trivetref08_Words.T7 := by kernel_rfl
theorem trivetref08_Words.bits7 : waitsOk trivetref08_Words.T7.2 trivetref08_Words.B7 = true := by kernel_rfl
theorem trivetref08_Words.calls (k : Nat) (a0 : ByteArray) (a1 : Int) (r : List ByteArray) (w : World) (h : trivetref08_Words.f k a0 a1 = some r) :
  Calls Tryz.prog 109 #[.string a0, .int .u8 a1] w fun e w' => ∃ v0_ : Value, e = .returned (v0_) ∧ Kd.R Kd.string 9 w' w.heap.size (fun _ => True) v0_ r ∧ Below w.heap.size w w' := by
 have HB := Amk (Below.refl w.heap.size w)
 have H : (trivetref08_Words.l0 k a0 a1 (([(⟨#[]⟩ : ByteArray)] : List ByteArray)) 0) = some r := h
 clear h
 obtain ⟨y101, hy101⟩ : ∃ y_ : List ByteArray, y_ = (([(⟨#[]⟩ : ByteArray)] : List ByteArray)) := ⟨_, rfl⟩
 replace H : (trivetref08_Words.l0 k a0 a1 y101 0) = some r := by first | (rw [hy101]; with_reducible exact H) | (have H2_ := (Option.bind_some _ _).symm.trans H; rw [hy101]; with_reducible exact H2_) | (have H2_ := (Option.bind_some _ _).symm.trans H; with_reducible exact H2_) | with_reducible exact H | (rw [hy101]; exact H) | exact H
 have Ny101 := Amk hy101
 clear hy101
 have H' := Amk H
 clear H
 go_enter Tryz.func109, Tryz.ntmps109
 go_wp2_with (first | ((with_reducible refine gate_dst (N := 7) rfl ?_); refine Kd.R_lit Kd.string _ 9 ?hg (N := 7) ?hd (xs := ([(⟨#[]⟩ : ByteArray)] : List ByteArray)) (inner := [.string (⟨#[]⟩ : ByteArray)]) (ok := fun _ => True) (okp := fun _ => True) ?hr ?hp (fun _ hk => hk) trivial (Below.refl _ _) (Nat.le_refl _) (by simp) ?_; (case hd => rfl); (case hg => rfl); (case hr => first | (go_simp; done) | (go_simp; rfl)); (case hp => exact (Reps.one (show Kd.M Kd.string _ _ _ (⟨#[]⟩ : ByteArray) [.string (⟨#[]⟩ : ByteArray)] from rfl) (Reps.none _ _))); intro v102 w3 ho4 hb hg_ hnew_; clear hg_ hnew_; (first | rw [← Ny101.out] at ho4 | (simp only [Int.reduceToNat] at ho4; rw [← Ny101.out] at ho4)); have n0_ := Amk (Kd.R_lower ho4 (below_size (by repeat (first | (with_reducible first | exact HB.out | apply bal | apply pw_below_drewN | apply bdr) | exact HB.out)))); have n1_ := Amk (below_step (by repeat (first | (with_reducible first | exact HB.out | apply bal | apply pw_below_drewN | apply bdr) | exact HB.out)) hb); clear HB; have HO103 := n0_; have HB := n1_; clear n0_ n1_; clear hb ho4))
 go_loopg [5, 6] k (fun kq v5 v6 w' => ∃ (x5_1 : List ByteArray) (x6_1 : Int), v6 = .int .i64 x6_1 ∧ Aside0 (trivetref08_Words.l0 kq a0 a1 x5_1 x6_1 = some r) ∧ Aside0 (kq ≤ k) ∧ Aside0 (Kd.R Kd.string 9 w' w.heap.size (fun _ => True) v5 x5_1) ∧ Aside0 (Below w.heap.size w w'))
 case atStart => exact ⟨(y101), (0), (by first | rfl | (simp; done) | (simp [*]; done)), H', ⟨Nat.le_refl _⟩, ⟨by (with_reducible repeat (first | apply Kd.R_alloc | apply Kd.R_drewN | apply Kd.R_drew)); exact HO103.out⟩, ⟨by repeat (first | (with_reducible first | exact HB.out | apply bal | apply pw_below_drewN | apply bdr) | exact HB.out)⟩⟩
 case round =>
  clear H'
  try clear c1
  try clear p2
  obtain ⟨x5_1, x6_1, rfl, HA, HK1, HO_5, HB⟩ := hrel
  cases gk with
  | zero => exact absurd HA.out (by simp [trivetref08_Words.l0])
  | succ k1 =>
   have H := HA.out
   clear HA
   simp only [trivetref08_Words.l0] at H
   by_cases c5 : x6_1 < (a0.size : Int)
   ·
    rw [if_pos c5] at H
    have c5b0 : decide (x6_1 < (a0.size : Int)) = true := decide_eq_true c5
    clear c5
    by_cases c6 : 0 ≤ x6_1
    ·
     rw [if_pos c6] at H
     have c6b0 : decide (0 ≤ x6_1) = true := decide_eq_true c6
     clear c6
     by_cases c8 : (bt a0 x6_1) = a1
     ·
      rw [if_pos c8] at H
      have c8b0 : ((bt a0 x6_1) == a1) = true := beq_iff_eq.mpr c8
      have c8b1 : ((bt a0 x6_1) != a1) = false := bne_eq_false_iff_eq.mpr c8
      clear c8
      by_cases c9 : x5_1.length < 8796093022208
      ·
       rw [if_pos c9] at H
       have LMc9 := Amk c9
       clear c9
       obtain ⟨y104, hy104⟩ : ∃ y_ : List ByteArray, y_ = (x5_1 ++ [(⟨#[]⟩ : ByteArray)]) := ⟨_, rfl⟩
       replace H : (trivetref08_Words.l0 k1 a0 a1 y104 (wrap64 (x6_1 + 1))) = some r := by first | (rw [hy104]; with_reducible exact H) | (have H2_ := (Option.bind_some _ _).symm.trans H; rw [hy104]; with_reducible exact H2_) | (have H2_ := (Option.bind_some _ _).symm.trans H; with_reducible exact H2_) | with_reducible exact H | (rw [hy104]; exact H) | exact H
       have Ny104 := Amk hy104
       clear hy104
       have H' := Amk H
       clear H
       have p7 : 0 ≤ (x6_1 : Int) := of_decide_eq_true (by first | (with_reducible assumption) | assumption)
       have q7 : x6_1 < (a0.size : Int) := of_decide_eq_true (by first | (with_reducible assumption) | assumption)
       have hx7 := bt_at a0 x6_1
       replace p7 := eq_true p7
       replace q7 := eq_true q7
       go_wp2_with (first | ((with_reducible refine gate_builtin (b := .append) (xs := #[.tmp 19, .tmp 20]) rfl ?_); at_builtin; refine Kd.R_append Kd.string (w0 := w) w.heap.size rfl (.tmp 19) (.tmp 20) 37 9 (.string ⟨#[]⟩) 16 rfl Tryz.underlying37 info9 rfl (by decide) (by omega) u5 x5_1 (⟨#[]⟩ : ByteArray) [.string (⟨#[]⟩ : ByteArray)] (fun _ => True) (fun _ => False) rfl rfl ?aP (fun _ hk => hk.elim) ?aF ?aO ?aB ?aS ?aL ?_; (case aP => exact rfl); (case aB => exact (by repeat (first | (with_reducible first | exact HB.out | apply bal | apply pw_below_drewN | apply bdr) | exact HB.out))); (case aF => exact (fun _ _ => trivial)); (case aO => exact (by (with_reducible repeat (first | apply Kd.R_alloc | apply Kd.R_drewN | apply Kd.R_drew)); exact HO_5.out)); (case aS => exact (below_size (by repeat (first | (with_reducible first | exact HB.out | apply bal | apply pw_below_drewN | apply bdr) | exact HB.out)))); (case aL => have := LMc9.out; omega); intro v105 w10 ho hb hg hat; rw [← Ny104.out] at ho; have n0_ := Amk (hb); have n1_ := Amk (ho); clear HB; clear HO_5; have HB := n0_; have HO106 := n1_; clear n0_ n1_; clear ho hb hg hat))
       go_roundg k1
       case measure => have := HK1.out; omega
       case rel => exact ⟨(y104), (wrap64 (x6_1 + 1)), (by first | rfl | (simp; done) | (simp [*]; done)), H', ⟨by have := HK1.out; omega⟩, ⟨by (with_reducible repeat (first | apply Kd.R_alloc | apply Kd.R_drewN | apply Kd.R_drew)); exact HO106.out⟩, ⟨by repeat (first | (with_reducible first | exact HB.out | apply bal | apply pw_below_drewN | apply bdr) | exact HB.out)⟩⟩
      ·
       rw [if_neg c9] at H
       exact absurd H (by simp)
     ·
      rw [if_neg c8] at H
      have c8b0 : ((bt a0 x6_1) == a1) = false := beq_eq_false_iff_ne.mpr c8
      have c8b1 : ((bt a0 x6_1) != a1) = true := bne_iff_ne.mpr c8
      obtain ⟨ji11, hji11⟩ : ∃ j_ : Int, (wrap64 ((x5_1.length : Int) - 1)) = j_ := ⟨_, rfl⟩
      replace H : (if 0 ≤ (ji11) then (if (ji11) < (x5_1.length : Int) then (if x6_1 ≤ (wrap64 (x6_1 + 1)) then (if (wrap64 (x6_1 + 1)) ≤ (a0.size : Int) then (if (rdOf ByteArray.empty x5_1 (ji11)).size + (a0.extract (x6_1 : Int).toNat ((wrap64 (x6_1 + 1)) : Int).toNat).size ≤ 9223372036854775807 then (trivetref08_Words.l0 k1 a0 a1 (x5_1.set ((ji11) : Int).toNat ((rdOf ByteArray.empty x5_1 (ji11)) ++ (a0.extract (x6_1 : Int).toNat ((wrap64 (x6_1 + 1)) : Int).toNat))) (wrap64 (x6_1 + 1))) else (none)) else (none)) else (none)) else (none)) else (none)) = some r := by first | (rw [hji11] at H; exact H) | (simp only [hji11] at H ⊢; exact H)
      have hji11w : (IntKind.i64.wrap ((x5_1.length : Int) - 1)) = ji11 := (i64_w _).trans hji11
      by_cases c12 : 0 ≤ (ji11)
      ·
       rw [if_pos c12] at H
       have c12b0 : decide (0 ≤ (ji11)) = true := decide_eq_true c12
       clear c12
       by_cases c13 : (ji11) < (x5_1.length : Int)
       ·
        rw [if_pos c13] at H
        have c13b0 : decide ((ji11) < (x5_1.length : Int)) = true := decide_eq_true c13
        clear c13
        have c14b0 := eq_true (of_decide_eq_true (by first | (with_reducible assumption) | assumption) : 0 ≤ x6_1)
        by_cases c15 : x6_1 ≤ (wrap64 (x6_1 + 1))
        ·
         rw [if_pos c15] at H
         have c15b0 := eq_true c15
         have c15b1 : decide (x6_1 ≤ (wrap64 (x6_1 + 1))) = true := decide_eq_true c15
         by_cases c16 : (wrap64 (x6_1 + 1)) ≤ (a0.size : Int)
         ·
          rw [if_pos c16] at H
          have c16b0 := eq_true c16
          have c16b1 : decide ((wrap64 (x6_1 + 1)) ≤ (a0.size : Int)) = true := decide_eq_true c16
          by_cases c17 : (rdOf ByteArray.empty x5_1 (ji11)).size + (a0.extract (x6_1 : Int).toNat ((wrap64 (x6_1 + 1)) : Int).toNat).size ≤ 9223372036854775807
          ·
           rw [if_pos c17] at H
           have c17b0 := eq_true c17
           have c17b1 : decide ((rdOf ByteArray.empty x5_1 (ji11)).size + (a0.extract (x6_1 : Int).toNat ((wrap64 (x6_1 + 1)) : Int).toNat).size ≤ 9223372036854775807) = true := decide_eq_true c17
           try have c17b2 : (9223372036854775807 < (rdOf ByteArray.empty x5_1 (ji11)).size + (a0.extract (x6_1 : Int).toNat ((wrap64 (x6_1 + 1)) : Int).toNat).size) = False := eq_false (Nat.not_lt.2 c17)
           try have c17b3 : (9223372036854775807 < (rdOf ByteArray.empty x5_1 (ji11)).size + (((wrap64 (x6_1 + 1))).toNat - (x6_1).toNat)) = False := eq_false (Nat.not_lt.2 (by have h_ := c17; simp only [ByteArray.size_append, ByteArray.size_extract] at h_; first | exact h_ | omega))
           obtain ⟨y108, hy108⟩ : ∃ y_ : List ByteArray, y_ = (x5_1.set ((ji11) : Int).toNat ((rdOf ByteArray.empty x5_1 (ji11)) ++ (a0.extract (x6_1 : Int).toNat ((wrap64 (x6_1 + 1)) : Int).toNat))) := ⟨_, rfl⟩
           replace H : (trivetref08_Words.l0 k1 a0 a1 y108 (wrap64 (x6_1 + 1))) = some r := by first | (rw [hy108]; with_reducible exact H) | (have H2_ := (Option.bind_some _ _).symm.trans H; rw [hy108]; with_reducible exact H2_) | (have H2_ := (Option.bind_some _ _).symm.trans H; with_reducible exact H2_) | with_reducible exact H | (rw [hy108]; exact H) | exact H
           have Ny108 := Amk hy108
           clear hy108
           have H' := Amk H
           clear H
           have p7 : 0 ≤ (x6_1 : Int) := of_decide_eq_true (by first | (with_reducible assumption) | assumption)
           have q7 : x6_1 < (a0.size : Int) := of_decide_eq_true (by first | (with_reducible assumption) | assumption)
           have hx7 := bt_at a0 x6_1
           replace p7 := eq_true p7
           replace q7 := eq_true q7
           try go_wp2
           have n0_ := Amk (Kd.R_drew HO_5.out)
           have n1_ := Amk (bdr HB.out)
           clear HO_5
           clear HB
           have HO_5 := n0_
           have HB := n1_
           clear n0_ n1_
           obtain ⟨Ao20, co20, eo20⟩ := Kd.R_slice HO_5.out
           (first | subst eo20 | (injection eo20 with f1_ f2_ f3_; have f4_ := f1_.symm; have f5_ := f3_.symm; clear f1_ f2_ f3_; subst f4_; subst f5_))
           have p107 : 0 ≤ ((ji11) : Int) := of_decide_eq_true (by first | (with_reducible assumption) | assumption)
           have q107 : (ji11) < (x5_1.length : Int) := of_decide_eq_true (by first | (with_reducible assumption) | assumption)
           obtain ⟨ad107, e107, hx107_0⟩ := Kd.at_string (Kd.R_reads' HO_5.out).2.2 (ji11) p107 q107
           cases e107
           replace p107 := eq_true p107
           replace q107 := eq_true q107
           have p18 : 0 ≤ ((ji11) : Int) := of_decide_eq_true (by first | (with_reducible assumption) | assumption)
           have q18 : ((ji11) : Int) < ((x5_1.length : Int) : Int) := of_decide_eq_true (by first | (with_reducible assumption) | assumption)
           obtain ⟨go18, co18, eo18, gb18, gl18, cl18, HG18⟩ := Kd.R_form HO_5.out (by omega)
           (first | cases eo18 | (injection eo18 with ea_ en_ ec_; (first | subst ea_ | (injection ea_ with ea_; subst ea_)); subst ec_; clear en_))
           have GB18 := Amk gb18
           have GG18 := Amk HG18
           clear gb18 gl18 HG18
           (first | simp only [add_plain] at hx107_0 | skip)
           obtain ⟨hx18_0, hf18_0⟩ := Kd.R_celln (⟨#[]⟩ : ByteArray) HO_5.out ((ji11) : Int) p18 q18
           replace p18 := eq_true p18
           replace q18 := eq_true q18
           have HP21 := Kd.R_putn HO_5.out ((ji11) : Int) ((rdOf ByteArray.empty x5_1 (ji11)) ++ (a0.extract (x6_1 : Int).toNat ((wrap64 (x6_1 + 1)) : Int).toNat))
           rw [← Ny108.out] at HP21
           have HQ21 := Amk HP21
           clear HP21
           refine start_ (n := 18) (S := fun w' => w'.cell? ⟨go18, ((ji11)).toNat, none⟩ = some (.string (rdOf ByteArray.empty x5_1 (ji11)))) (ds := [17]) #[false, false, false, false, false, false, false, false, false, false, false, false, false, false, false, false, false, false] (by kernel_rfl) rfl rfl (hx107_0) (fun hHeld => ?_); refine with_tabW trivetref08_Words.tab7 trivetref08_Words.bits7 (fun HT_ HW_ => ?_)
           generalize wr.drew = w19 at HO_5 HB GG18 HQ21 hf18_0 hx107_0 hx18_0 hHeld ⊢
           refine pure_ (i := 0) (N := some 22) (v := ?_) (a' := ?_) #[true, false, false, false, false, false, false, false, false, false, false, false, false, false, false, false, false, false] rfl rfl (any_of HT_.out (by kernel_rfl)) (fun _ _ _ h => h) (Or.inl ⟨by rfl, ?_⟩) ?_ ?_
           rotate_left
           ·
            intro w'
            go_simp
            with_reducible rfl
           rotate_left
           ·
            simp only [Act.put, Lsa, Lsz, Lss, i64_w, i32_w]
            rfl
           refine pure_ (i := 1) (N := some 23) (v := ?_) (a' := ?_) #[true, true, false, false, false, false, false, false, false, false, false, false, false, false, false, false, false, false] rfl rfl (any_of HT_.out (by kernel_rfl)) (fun _ _ _ h => h) (Or.inl ⟨by rfl, ?_⟩) ?_ ?_
           rotate_left
           ·
            intro w'
            go_simp
            with_reducible rfl
           rotate_left
           ·
            simp only [Act.put, Lsa, Lsz, Lss, i64_w, i32_w]
            rfl
           refine pure_ (i := 2) (N := some 24) (v := ?_) (a' := ?_) #[true, true, true, false, false, false, false, false, false, false, false, false, false, false, false, false, false, false] rfl rfl (any_of HT_.out (by kernel_rfl)) (fun _ _ _ h => h) (Or.inl ⟨by rfl, ?_⟩) ?_ ?_
           rotate_left
           ·
            intro w'
            go_simp
            with_reducible rfl
           rotate_left
           ·
            simp only [Act.put, Lsa, Lsz, Lss, i64_w, i32_w]
            rfl
           refine pure_ (i := 3) (N := some 25) (v := ?_) (a' := ?_) #[true, true, true, true, false, false, false, false, false, false, false, false, false, false, false, false, false, false] rfl rfl (any_of HT_.out (by kernel_rfl)) (fun _ _ _ h => h) (Or.inl ⟨by rfl, ?_⟩) ?_ ?_
           rotate_left
           ·
            intro w'
            go_simp
            with_reducible rfl
           rotate_left
           ·
            simp only [Act.put, Lsa, Lsz, Lss, i64_w, i32_w]
            rfl
           refine pure_ (i := 4) (N := some 26) (v := ?_) (a' := ?_) #[true, true, true, true, true, false, false, false, false, false, false, false, false, false, false, false, false, false] rfl rfl (any_of HT_.out (by kernel_rfl)) (fun _ _ _ h => h) (Or.inl ⟨by rfl, ?_⟩) ?_ ?_
           rotate_left
           ·
            intro w'
            go_simp
            with_reducible rfl
           rotate_left
           ·
            simp only [Act.put, Lsa, Lsz, Lss, i64_w, i32_w]
            rfl
           refine pure_ (i := 5) (N := some 27) (v := ?_) (a' := ?_) #[true, true, true, true, true, true, false, false, false, false, false, false, false, false, false, false, false, false] rfl rfl (any_of HT_.out (by kernel_rfl)) (fun _ _ _ h => h) (Or.inl ⟨by rfl, ?_⟩) ?_ ?_
           rotate_left
           ·
            intro w'
            go_simp
            with_reducible rfl
           rotate_left
           ·
            simp only [Act.put, Lsa, Lsz, Lss, i64_w, i32_w]
            rfl
           refine pure_ (i := 6) (N := some 28) (v := ?_) (a' := ?_) #[true, true, true, true, true, true, true, false, false, false, false, false, false, false, false, false, false, false] rfl rfl (any_of HT_.out (by kernel_rfl)) (fun _ _ _ h => h) (Or.inl ⟨by rfl, ?_⟩) ?_ ?_
           rotate_left
           ·
            intro w'
            go_simp
            with_reducible rfl
           rotate_left
           ·
            simp only [Act.put, Lsa, Lsz, Lss, i64_w, i32_w]
            rfl
           refine pure_ (i := 7) (N := some 29) (v := ?_) (a' := ?_) #[true, true, true, true, true, true, true, true, false, false, false, false, false, false, false, false, false, false] rfl rfl (any_of HT_.out (by kernel_rfl)) (fun _ _ _ h => h) (Or.inl ⟨by rfl, ?_⟩) ?_ ?_
           rotate_left
           ·
            intro w'
            go_simp
            with_reducible rfl
           rotate_left
           ·
            simp only [Act.put, Lsa, Lsz, Lss, i64_w, i32_w]
            rfl
           refine pure_ (i := 8) (N := some 30) (v := ?_) (a' := ?_) #[true, true, true, true, true, true, true, true, true, false, false, false, false, false, false, false, false, false] rfl rfl (any_of HT_.out (by kernel_rfl)) (fun _ _ _ h => h) (Or.inl ⟨by rfl, ?_⟩) ?_ ?_
           rotate_left
           ·
            intro w'
            go_simp
            with_reducible rfl
           rotate_left
           ·
            simp only [Act.put, Lsa, Lsz, Lss, i64_w, i32_w]
            rfl
           refine pure_ (i := 10) (N := some 32) (v := ?_) (a' := ?_) #[true, true, true, true, true, true, true, true, true, false, true, false, false, false, false, false, false, false] rfl rfl (any_of HT_.out (by kernel_rfl)) (fun _ _ _ h => h) (Or.inl ⟨by rfl, ?_⟩) ?_ ?_
           rotate_left
           ·
            intro w'
            go_simp
            with_reducible rfl
           rotate_left
           ·
            simp only [Act.put, Lsa, Lsz, Lss, i64_w, i32_w]
            rfl
           refine pure_ (i := 11) (N := some 33) (v := ?_) (a' := ?_) #[true, true, true, true, true, true, true, true, true, false, true, true, false, false, false, false, false, false] rfl rfl (any_of HT_.out (by kernel_rfl)) (fun _ _ _ h => h) (Or.inl ⟨by rfl, ?_⟩) ?_ ?_
           rotate_left
           ·
            intro w'
            go_simp
            with_reducible rfl
           rotate_left
           ·
            simp only [Act.put, Lsa, Lsz, Lss, i64_w, i32_w]
            rfl
           refine pure_ (i := 12) (N := some 34) (v := ?_) (a' := ?_) #[true, true, true, true, true, true, true, true, true, false, true, true, true, false, false, false, false, false] rfl rfl (any_of HT_.out (by kernel_rfl)) (fun _ _ _ h => h) (Or.inl ⟨by rfl, ?_⟩) ?_ ?_
           rotate_left
           ·
            intro w'
            go_simp
            with_reducible rfl
           rotate_left
           ·
            simp only [Act.put, Lsa, Lsz, Lss, i64_w, i32_w]
            rfl
           refine pure_ (i := 13) (N := some 35) (v := ?_) (a' := ?_) #[true, true, true, true, true, true, true, true, true, false, true, true, true, true, false, false, false, false] rfl rfl (any_of HT_.out (by kernel_rfl)) (fun _ _ _ h => h) (Or.inl ⟨by rfl, ?_⟩) ?_ ?_
           rotate_left
           ·
            intro w'
            go_simp
            with_reducible rfl
           rotate_left
           ·
            simp only [Act.put, Lsa, Lsz, Lss, i64_w, i32_w]
            rfl
           refine pure_ (i := 14) (N := some 36) (v := ?_) (a' := ?_) #[true, true, true, true, true, true, true, true, true, false, true, true, true, true, true, false, false, false] rfl rfl (any_of HT_.out (by kernel_rfl)) (fun _ _ _ h => h) (Or.inl ⟨by rfl, ?_⟩) ?_ ?_
           rotate_left
           ·
            intro w'
            go_simp
            with_reducible rfl
           rotate_left
           ·
            simp only [Act.put, Lsa, Lsz, Lss, i64_w, i32_w]
            rfl
           refine take_ (i := 9) (N := some 31) (v := ?_) (a' := ?_) #[true, true, true, true, true, true, true, true, true, true, true, true, true, true, true, false, false, false] rfl rfl (take_ofW HT_.out HW_.out (by kernel_rfl)) (fun _ _ _ h => h) (Or.inl ⟨by rfl, ?_⟩) hHeld ?_ ?_
           rotate_left
           ·
            intro w' s0
            go_simp
            with_reducible rfl
           rotate_left
           ·
            simp only [Act.put, Lsa, Lsz, Lss, i64_w, i32_w]
            rfl
           refine pure_ (i := 15) (N := some 37) (v := ?_) (a' := ?_) #[true, true, true, true, true, true, true, true, true, true, true, true, true, true, true, true, false, false] rfl rfl (any_of HT_.out (by kernel_rfl)) (fun _ _ _ h => h) (Or.inl ⟨by rfl, ?_⟩) ?_ ?_
           rotate_left
           ·
            intro w'
            go_simp
            with_reducible rfl
           rotate_left
           ·
            simp only [Act.put, Lsa, Lsz, Lss, i64_w, i32_w]
            rfl
           refine pure_ (i := 16) (N := some 38) (v := ?_) (a' := ?_) #[true, true, true, true, true, true, true, true, true, true, true, true, true, true, true, true, true, false] rfl rfl (any_of HT_.out (by kernel_rfl)) (fun _ _ _ h => h) (Or.inl ⟨by rfl, ?_⟩) ?_ ?_
           rotate_left
           ·
            intro w'
            go_simp
            with_reducible rfl
           rotate_left
           ·
            simp only [Act.put, Lsa, Lsz, Lss, i64_w, i32_w]
            rfl
           refine last_ (i := 17) (N := none) #[true, true, true, true, true, true, true, true, true, true, true, true, true, true, true, true, true, true] rfl rfl (one_of HT_.out (by kernel_rfl)) (by decide) (fun K hK => ?_)
           refine skip_ (w1 := ?_) (by rfl) rfl ?_ ?_
           rotate_left
           ·
            go_simp
            rfl
           refine hK.out _ _ ?_
           clear hK K
           refine done_ (done_of HT_.out (by kernel_rfl)) ?_
           try go_wp2
           go_roundg k1
           case measure => have := HK1.out; omega
           case rel => exact ⟨(y108), (wrap64 (x6_1 + 1)), (by first | rfl | (simp; done) | (simp [*]; done)), H', ⟨by have := HK1.out; omega⟩, ⟨by (with_reducible repeat (first | apply Kd.R_alloc | apply Kd.R_drewN | apply Kd.R_drew)); exact HQ21.out⟩, ⟨by repeat (first | (with_reducible first | exact HB.out | apply bal | apply pw_below_drewN | apply bdr | refine below_set ?_ GB18.out) | exact HB.out)⟩⟩
          ·
           rw [if_neg c17] at H
           exact absurd H (by simp)
         ·
          rw [if_neg c16] at H
          exact absurd H (by simp)
        ·
         rw [if_neg c15] at H
         exact absurd H (by simp)
       ·
        rw [if_neg c13] at H
        exact absurd H (by simp)
      ·
       rw [if_neg c12] at H
       exact absurd H (by simp)
    ·
     rw [if_neg c6] at H
     exact absurd H (by simp)
   ·
    rw [if_neg c5] at H
    have c5b0 : decide (x6_1 < (a0.size : Int)) = false := decide_eq_false c5
    clear c5
    obtain rfl := Option.some.inj H
    go_wp2
    go_ret
    exact ⟨_, by first | rfl | (simp [errW_none, errW_some] <;> rfl) | (simp [*, errW_none, errW_some] <;> rfl), by (with_reducible repeat (first | apply Kd.R_alloc | apply Kd.R_drewN | apply Kd.R_drew)); exact HO_5.out, by repeat (first | (with_reducible first | exact HB.out | apply bal | apply pw_below_drewN | apply bdr) | exact HB.out)⟩
def trivetref07_Name.l0 : Nat → ByteArray → Int → Option (Bool)
 | 0, _, _ => none
 | k + 1, x0, x3 => if x3 < (x0.size : Int) then (if 0 ≤ x3 then (if (bt x0 x3) ≥ 97 then (if (bt x0 x3) ≤ 122 then (trivetref07_Name.l0 k x0 (wrap64 (x3 + 1))) else (if (bt x0 x3) ≥ 48 then (if (bt x0 x3) ≤ 57 then (trivetref07_Name.l0 k x0 (wrap64 (x3 + 1))) else (if (bt x0 x3) = 45 then (trivetref07_Name.l0 k x0 (wrap64 (x3 + 1))) else (if ((bt x0 x3) = 95) then (trivetref07_Name.l0 k x0 (wrap64 (x3 + 1))) else (some false)))) else (if (bt x0 x3) = 45 then (trivetref07_Name.l0 k x0 (wrap64 (x3 + 1))) else (if ((bt x0 x3) = 95) then (trivetref07_Name.l0 k x0 (wrap64 (x3 + 1))) else (some false))))) else (if (bt x0 x3) ≥ 48 then (if (bt x0 x3) ≤ 57 then (trivetref07_Name.l0 k x0 (wrap64 (x3 + 1))) else (if (bt x0 x3) = 45 then (trivetref07_Name.l0 k x0 (wrap64 (x3 + 1))) else (if ((bt x0 x3) = 95) then (trivetref07_Name.l0 k x0 (wrap64 (x3 + 1))) else (some false)))) else (if (bt x0 x3) = 45 then (trivetref07_Name.l0 k x0 (wrap64 (x3 + 1))) else (if ((bt x0 x3) = 95) then (trivetref07_Name.l0 k x0 (wrap64 (x3 + 1))) else (some false))))) else (none)) else (if (x0.size : Int) ≥ 1 then (some (decide ((x0.size : Int) ≤ 16))) else (some false))
def trivetref07_Name.f (k : Nat) (a0 : ByteArray) : Option (Bool) := trivetref07_Name.l0 k a0 0
theorem trivetref07_Name.mono_l : ∀ k, (∀ y0 y1, LeO (trivetref07_Name.l0 k y0 y1) (trivetref07_Name.l0 (k + 1) y0 y1))
 | 0 => fun _ _ r h => by simp [trivetref07_Name.l0] at h
 | k + 1 => by
  have ih0 := trivetref07_Name.mono_l k
  ·
   intro y0 y1
   unfold trivetref07_Name.l0
   repeat' first
   | (with_reducible exact ih0 _ _)
   | (with_reducible exact LeO.refl _)
   | (with_reducible exact LeO.none _)
   | (with_reducible refine LeO.ite ?_ ?_)
   | (with_reducible refine LeO.bind ?_ (fun _ => ?_))
   | exact ih0 _ _
   | exact LeO.none _
   | refine LeO.ite ?_ ?_
   | refine LeO.bind ?_ (fun _ => ?_)
theorem trivetref07_Name.mono : ∀ a0 k, LeO (trivetref07_Name.f k a0) (trivetref07_Name.f (k + 1) a0) := by
 intro a0 k
 have ih0 := trivetref07_Name.mono_l k
 unfold trivetref07_Name.f
 repeat' first
   | (with_reducible exact ih0 _ _)
   | (with_reducible exact LeO.refl _)
   | (with_reducible exact LeO.none _)
   | (with_reducible refine LeO.ite ?_ ?_)
   | (with_reducible refine LeO.bind ?_ (fun _ => ?_))
   | exact ih0 _ _
   | exact LeO.none _
   | refine LeO.ite ?_ ?_
   | refine LeO.bind ?_ (fun _ => ?_)
theorem trivetref07_Name.calls (k : Nat) (a0 : ByteArray) (r : Bool) (w : World) (h : trivetref07_Name.f k a0 = some r) :
  Calls Tryz.prog 110 #[.string a0] w fun e w' => e = .returned (.bool r) ∧ Drawn0 w w' := by
 have H : (trivetref07_Name.l0 k a0 0) = some r := h
 clear h
 have H' := Amk H
 clear H
 go_enter Tryz.func110, Tryz.ntmps110
 go_wp2
 go_loopg [3] k (fun kq v3 w' => ∃ (x3_1 : Int), v3 = .int .i64 x3_1 ∧ Aside0 (trivetref07_Name.l0 kq a0 x3_1 = some r) ∧ Aside0 (kq ≤ k) ∧ Drawn0 w w')
 case atStart => exact ⟨(0), (by first | rfl | (simp; done) | (simp [*]; done)), H', ⟨Nat.le_refl _⟩, by repeat (first | exact Drawn0.refl _ | apply Drawn0.step)⟩
 case round =>
  clear H'
  try clear c1
  obtain ⟨x3_1, rfl, HA, HK1, ⟨m1, rfl⟩⟩ := hrel
  cases gk with
  | zero => exact absurd HA.out (by simp [trivetref07_Name.l0])
  | succ k1 =>
   have H := HA.out
   clear HA
   simp only [trivetref07_Name.l0] at H
   by_cases c2 : x3_1 < (a0.size : Int)
   ·
    rw [if_pos c2] at H
    have c2b0 : decide (x3_1 < (a0.size : Int)) = true := decide_eq_true c2
    clear c2
    by_cases c3 : 0 ≤ x3_1
    ·
     rw [if_pos c3] at H
     have c3b0 : decide (0 ≤ x3_1) = true := decide_eq_true c3
     clear c3
     by_cases c5 : (bt a0 x3_1) ≥ 97
     ·
      rw [if_pos c5] at H
      have c5b0 : decide (97 ≤ (bt a0 x3_1)) = true := decide_eq_true c5
      clear c5
      by_cases c6 : (bt a0 x3_1) ≤ 122
      ·
       rw [if_pos c6] at H
       have c6b0 : decide ((bt a0 x3_1) ≤ 122) = true := decide_eq_true c6
       clear c6
       have H' := Amk H
       clear H
       have p4 : 0 ≤ (x3_1 : Int) := of_decide_eq_true (by first | (with_reducible assumption) | assumption)
       have q4 : x3_1 < (a0.size : Int) := of_decide_eq_true (by first | (with_reducible assumption) | assumption)
       have hx4 := bt_at a0 x3_1
       replace p4 := eq_true p4
       replace q4 := eq_true q4
       go_wp2
       go_roundg k1
       case measure => have := HK1.out; omega
       case rel => exact ⟨(wrap64 (x3_1 + 1)), (by first | rfl | (simp; done) | (simp [*]; done)), H', ⟨by have := HK1.out; omega⟩, by repeat (first | exact Drawn0.refl _ | apply Drawn0.step)⟩
      ·
       rw [if_neg c6] at H
       have c6b0 : decide ((bt a0 x3_1) ≤ 122) = false := decide_eq_false c6
       clear c6
       by_cases c7 : (bt a0 x3_1) ≥ 48
       ·
        rw [if_pos c7] at H
        have c7b0 : decide (48 ≤ (bt a0 x3_1)) = true := decide_eq_true c7
        clear c7
        by_cases c8 : (bt a0 x3_1) ≤ 57
        ·
         rw [if_pos c8] at H
         have c8b0 : decide ((bt a0 x3_1) ≤ 57) = true := decide_eq_true c8
         clear c8
         have H' := Amk H
         clear H
         have p4 : 0 ≤ (x3_1 : Int) := of_decide_eq_true (by first | (with_reducible assumption) | assumption)
         have q4 : x3_1 < (a0.size : Int) := of_decide_eq_true (by first | (with_reducible assumption) | assumption)
         have hx4 := bt_at a0 x3_1
         replace p4 := eq_true p4
         replace q4 := eq_true q4
         go_wp2
         go_roundg k1
         case measure => have := HK1.out; omega
         case rel => exact ⟨(wrap64 (x3_1 + 1)), (by first | rfl | (simp; done) | (simp [*]; done)), H', ⟨by have := HK1.out; omega⟩, by repeat (first | exact Drawn0.refl _ | apply Drawn0.step)⟩
        ·
         rw [if_neg c8] at H
         have c8b0 : decide ((bt a0 x3_1) ≤ 57) = false := decide_eq_false c8
         clear c8
         by_cases c9 : (bt a0 x3_1) = 45
         ·
          rw [if_pos c9] at H
          have c9b0 : ((bt a0 x3_1) == 45) = true := beq_iff_eq.mpr c9
          have c9b1 : ((bt a0 x3_1) != 45) = false := bne_eq_false_iff_eq.mpr c9
          clear c9
          have H' := Amk H
          clear H
          have p4 : 0 ≤ (x3_1 : Int) := of_decide_eq_true (by first | (with_reducible assumption) | assumption)
          have q4 : x3_1 < (a0.size : Int) := of_decide_eq_true (by first | (with_reducible assumption) | assumption)
          have hx4 := bt_at a0 x3_1
          replace p4 := eq_true p4
          replace q4 := eq_true q4
          go_wp2
          go_roundg k1
          case measure => have := HK1.out; omega
          case rel => exact ⟨(wrap64 (x3_1 + 1)), (by first | rfl | (simp; done) | (simp [*]; done)), H', ⟨by have := HK1.out; omega⟩, by repeat (first | exact Drawn0.refl _ | apply Drawn0.step)⟩
         ·
          rw [if_neg c9] at H
          have c9b0 : ((bt a0 x3_1) == 45) = false := beq_eq_false_iff_ne.mpr c9
          have c9b1 : ((bt a0 x3_1) != 45) = true := bne_iff_ne.mpr c9
          by_cases c10 : ((bt a0 x3_1) = 95)
          ·
           rw [if_pos c10] at H
           have c10b0 : ((bt a0 x3_1) == 95) = true := beq_iff_eq.mpr c10
           have c10b1 : ((bt a0 x3_1) != 95) = false := bne_eq_false_iff_eq.mpr c10
           clear c10
           have H' := Amk H
           clear H
           have p4 : 0 ≤ (x3_1 : Int) := of_decide_eq_true (by first | (with_reducible assumption) | assumption)
           have q4 : x3_1 < (a0.size : Int) := of_decide_eq_true (by first | (with_reducible assumption) | assumption)
           have hx4 := bt_at a0 x3_1
           replace p4 := eq_true p4
           replace q4 := eq_true q4
           go_wp2
           go_roundg k1
           case measure => have := HK1.out; omega
           case rel => exact ⟨(wrap64 (x3_1 + 1)), (by first | rfl | (simp; done) | (simp [*]; done)), H', ⟨by have := HK1.out; omega⟩, by repeat (first | exact Drawn0.refl _ | apply Drawn0.step)⟩
          ·
           rw [if_neg c10] at H
           have c10b0 : ((bt a0 x3_1) == 95) = false := beq_eq_false_iff_ne.mpr c10
           have c10b1 : ((bt a0 x3_1) != 95) = true := bne_iff_ne.mpr c10
           obtain rfl := Option.some.inj H
           have p4 : 0 ≤ (x3_1 : Int) := of_decide_eq_true (by first | (with_reducible assumption) | assumption)
           have q4 : x3_1 < (a0.size : Int) := of_decide_eq_true (by first | (with_reducible assumption) | assumption)
           have hx4 := bt_at a0 x3_1
           replace p4 := eq_true p4
           replace q4 := eq_true q4
           go_wp2
           go_ret
           exact ⟨by first | rfl | (simp; done) | (simp [*]; done), by repeat (first | exact Drawn0.refl _ | apply Drawn0.step)⟩
       ·
        rw [if_neg c7] at H
        have c7b0 : decide (48 ≤ (bt a0 x3_1)) = false := decide_eq_false c7
        clear c7
        by_cases c11 : (bt a0 x3_1) = 45
        ·
         rw [if_pos c11] at H
         have c11b0 : ((bt a0 x3_1) == 45) = true := beq_iff_eq.mpr c11
         have c11b1 : ((bt a0 x3_1) != 45) = false := bne_eq_false_iff_eq.mpr c11
         clear c11
         have H' := Amk H
         clear H
         have p4 : 0 ≤ (x3_1 : Int) := of_decide_eq_true (by first | (with_reducible assumption) | assumption)
         have q4 : x3_1 < (a0.size : Int) := of_decide_eq_true (by first | (with_reducible assumption) | assumption)
         have hx4 := bt_at a0 x3_1
         replace p4 := eq_true p4
         replace q4 := eq_true q4
         go_wp2
         go_roundg k1
         case measure => have := HK1.out; omega
         case rel => exact ⟨(wrap64 (x3_1 + 1)), (by first | rfl | (simp; done) | (simp [*]; done)), H', ⟨by have := HK1.out; omega⟩, by repeat (first | exact Drawn0.refl _ | apply Drawn0.step)⟩
        ·
         rw [if_neg c11] at H
         have c11b0 : ((bt a0 x3_1) == 45) = false := beq_eq_false_iff_ne.mpr c11
         have c11b1 : ((bt a0 x3_1) != 45) = true := bne_iff_ne.mpr c11
         by_cases c12 : ((bt a0 x3_1) = 95)
         ·
          rw [if_pos c12] at H
          have c12b0 : ((bt a0 x3_1) == 95) = true := beq_iff_eq.mpr c12
          have c12b1 : ((bt a0 x3_1) != 95) = false := bne_eq_false_iff_eq.mpr c12
          clear c12
          have H' := Amk H
          clear H
          have p4 : 0 ≤ (x3_1 : Int) := of_decide_eq_true (by first | (with_reducible assumption) | assumption)
          have q4 : x3_1 < (a0.size : Int) := of_decide_eq_true (by first | (with_reducible assumption) | assumption)
          have hx4 := bt_at a0 x3_1
          replace p4 := eq_true p4
          replace q4 := eq_true q4
          go_wp2
          go_roundg k1
          case measure => have := HK1.out; omega
          case rel => exact ⟨(wrap64 (x3_1 + 1)), (by first | rfl | (simp; done) | (simp [*]; done)), H', ⟨by have := HK1.out; omega⟩, by repeat (first | exact Drawn0.refl _ | apply Drawn0.step)⟩
         ·
          rw [if_neg c12] at H
          have c12b0 : ((bt a0 x3_1) == 95) = false := beq_eq_false_iff_ne.mpr c12
          have c12b1 : ((bt a0 x3_1) != 95) = true := bne_iff_ne.mpr c12
          obtain rfl := Option.some.inj H
          have p4 : 0 ≤ (x3_1 : Int) := of_decide_eq_true (by first | (with_reducible assumption) | assumption)
          have q4 : x3_1 < (a0.size : Int) := of_decide_eq_true (by first | (with_reducible assumption) | assumption)
          have hx4 := bt_at a0 x3_1
          replace p4 := eq_true p4
          replace q4 := eq_true q4
          go_wp2
          go_ret
          exact ⟨by first | rfl | (simp; done) | (simp [*]; done), by repeat (first | exact Drawn0.refl _ | apply Drawn0.step)⟩
     ·
      rw [if_neg c5] at H
      have c5b0 : decide (97 ≤ (bt a0 x3_1)) = false := decide_eq_false c5
      clear c5
      by_cases c13 : (bt a0 x3_1) ≥ 48
      ·
       rw [if_pos c13] at H
       have c13b0 : decide (48 ≤ (bt a0 x3_1)) = true := decide_eq_true c13
       clear c13
       by_cases c14 : (bt a0 x3_1) ≤ 57
       ·
        rw [if_pos c14] at H
        have c14b0 : decide ((bt a0 x3_1) ≤ 57) = true := decide_eq_true c14
        clear c14
        have H' := Amk H
        clear H
        have p4 : 0 ≤ (x3_1 : Int) := of_decide_eq_true (by first | (with_reducible assumption) | assumption)
        have q4 : x3_1 < (a0.size : Int) := of_decide_eq_true (by first | (with_reducible assumption) | assumption)
        have hx4 := bt_at a0 x3_1
        replace p4 := eq_true p4
        replace q4 := eq_true q4
        go_wp2
        go_roundg k1
        case measure => have := HK1.out; omega
        case rel => exact ⟨(wrap64 (x3_1 + 1)), (by first | rfl | (simp; done) | (simp [*]; done)), H', ⟨by have := HK1.out; omega⟩, by repeat (first | exact Drawn0.refl _ | apply Drawn0.step)⟩
       ·
        rw [if_neg c14] at H
        have c14b0 : decide ((bt a0 x3_1) ≤ 57) = false := decide_eq_false c14
        clear c14
        by_cases c15 : (bt a0 x3_1) = 45
        ·
         rw [if_pos c15] at H
         have c15b0 : ((bt a0 x3_1) == 45) = true := beq_iff_eq.mpr c15
         have c15b1 : ((bt a0 x3_1) != 45) = false := bne_eq_false_iff_eq.mpr c15
         clear c15
         have H' := Amk H
         clear H
         have p4 : 0 ≤ (x3_1 : Int) := of_decide_eq_true (by first | (with_reducible assumption) | assumption)
         have q4 : x3_1 < (a0.size : Int) := of_decide_eq_true (by first | (with_reducible assumption) | assumption)
         have hx4 := bt_at a0 x3_1
         replace p4 := eq_true p4
         replace q4 := eq_true q4
         go_wp2
         go_roundg k1
         case measure => have := HK1.out; omega
         case rel => exact ⟨(wrap64 (x3_1 + 1)), (by first | rfl | (simp; done) | (simp [*]; done)), H', ⟨by have := HK1.out; omega⟩, by repeat (first | exact Drawn0.refl _ | apply Drawn0.step)⟩
        ·
         rw [if_neg c15] at H
         have c15b0 : ((bt a0 x3_1) == 45) = false := beq_eq_false_iff_ne.mpr c15
         have c15b1 : ((bt a0 x3_1) != 45) = true := bne_iff_ne.mpr c15
         by_cases c16 : ((bt a0 x3_1) = 95)
         ·
          rw [if_pos c16] at H
          have c16b0 : ((bt a0 x3_1) == 95) = true := beq_iff_eq.mpr c16
          have c16b1 : ((bt a0 x3_1) != 95) = false := bne_eq_false_iff_eq.mpr c16
          clear c16
          have H' := Amk H
          clear H
          have p4 : 0 ≤ (x3_1 : Int) := of_decide_eq_true (by first | (with_reducible assumption) | assumption)
          have q4 : x3_1 < (a0.size : Int) := of_decide_eq_true (by first | (with_reducible assumption) | assumption)
          have hx4 := bt_at a0 x3_1
          replace p4 := eq_true p4
          replace q4 := eq_true q4
          go_wp2
          go_roundg k1
          case measure => have := HK1.out; omega
          case rel => exact ⟨(wrap64 (x3_1 + 1)), (by first | rfl | (simp; done) | (simp [*]; done)), H', ⟨by have := HK1.out; omega⟩, by repeat (first | exact Drawn0.refl _ | apply Drawn0.step)⟩
         ·
          rw [if_neg c16] at H
          have c16b0 : ((bt a0 x3_1) == 95) = false := beq_eq_false_iff_ne.mpr c16
          have c16b1 : ((bt a0 x3_1) != 95) = true := bne_iff_ne.mpr c16
          obtain rfl := Option.some.inj H
          have p4 : 0 ≤ (x3_1 : Int) := of_decide_eq_true (by first | (with_reducible assumption) | assumption)
          have q4 : x3_1 < (a0.size : Int) := of_decide_eq_true (by first | (with_reducible assumption) | assumption)
          have hx4 := bt_at a0 x3_1
          replace p4 := eq_true p4
          replace q4 := eq_true q4
          go_wp2
          go_ret
          exact ⟨by first | rfl | (simp; done) | (simp [*]; done), by repeat (first | exact Drawn0.refl _ | apply Drawn0.step)⟩
      ·
       rw [if_neg c13] at H
       have c13b0 : decide (48 ≤ (bt a0 x3_1)) = false := decide_eq_false c13
       clear c13
       by_cases c17 : (bt a0 x3_1) = 45
       ·
        rw [if_pos c17] at H
        have c17b0 : ((bt a0 x3_1) == 45) = true := beq_iff_eq.mpr c17
        have c17b1 : ((bt a0 x3_1) != 45) = false := bne_eq_false_iff_eq.mpr c17
        clear c17
        have H' := Amk H
        clear H
        have p4 : 0 ≤ (x3_1 : Int) := of_decide_eq_true (by first | (with_reducible assumption) | assumption)
        have q4 : x3_1 < (a0.size : Int) := of_decide_eq_true (by first | (with_reducible assumption) | assumption)
        have hx4 := bt_at a0 x3_1
        replace p4 := eq_true p4
        replace q4 := eq_true q4
        go_wp2
        go_roundg k1
        case measure => have := HK1.out; omega
        case rel => exact ⟨(wrap64 (x3_1 + 1)), (by first | rfl | (simp; done) | (simp [*]; done)), H', ⟨by have := HK1.out; omega⟩, by repeat (first | exact Drawn0.refl _ | apply Drawn0.step)⟩
       ·
        rw [if_neg c17] at H
        have c17b0 : ((bt a0 x3_1) == 45) = false := beq_eq_false_iff_ne.mpr c17
        have c17b1 : ((bt a0 x3_1) != 45) = true := bne_iff_ne.mpr c17
        by_cases c18 : ((bt a0 x3_1) = 95)
        ·
         rw [if_pos c18] at H
         have c18b0 : ((bt a0 x3_1) == 95) = true := beq_iff_eq.mpr c18
         have c18b1 : ((bt a0 x3_1) != 95) = false := bne_eq_false_iff_eq.mpr c18
         clear c18
         have H' := Amk H
         clear H
         have p4 : 0 ≤ (x3_1 : Int) := of_decide_eq_true (by first | (with_reducible assumption) | assumption)
         have q4 : x3_1 < (a0.size : Int) := of_decide_eq_true (by first | (with_reducible assumption) | assumption)
         have hx4 := bt_at a0 x3_1
         replace p4 := eq_true p4
         replace q4 := eq_true q4
         go_wp2
         go_roundg k1
         case measure => have := HK1.out; omega
         case rel => exact ⟨(wrap64 (x3_1 + 1)), (by first | rfl | (simp; done) | (simp [*]; done)), H', ⟨by have := HK1.out; omega⟩, by repeat (first | exact Drawn0.refl _ | apply Drawn0.step)⟩
        ·
         rw [if_neg c18] at H
         have c18b0 : ((bt a0 x3_1) == 95) = false := beq_eq_false_iff_ne.mpr c18
         have c18b1 : ((bt a0 x3_1) != 95) = true := bne_iff_ne.mpr c18
         obtain rfl := Option.some.inj H
         have p4 : 0 ≤ (x3_1 : Int) := of_decide_eq_true (by first | (with_reducible assumption) | assumption)
         have q4 : x3_1 < (a0.size : Int) := of_decide_eq_true (by first | (with_reducible assumption) | assumption)
         have hx4 := bt_at a0 x3_1
         replace p4 := eq_true p4
         replace q4 := eq_true q4
         go_wp2
         go_ret
         exact ⟨by first | rfl | (simp; done) | (simp [*]; done), by repeat (first | exact Drawn0.refl _ | apply Drawn0.step)⟩
    ·
     rw [if_neg c3] at H
     exact absurd H (by simp)
   ·
    rw [if_neg c2] at H
    have c2b0 : decide (x3_1 < (a0.size : Int)) = false := decide_eq_false c2
    clear c2
    by_cases c19 : (a0.size : Int) ≥ 1
    ·
     rw [if_pos c19] at H
     have c19b0 : decide (1 ≤ (a0.size : Int)) = true := decide_eq_true c19
     have c19b1 : decide (1 ≤ a0.size) = true := decide_eq_true (by omega)
     clear c19
     obtain rfl := Option.some.inj H
     go_wp2
     go_ret
     exact ⟨by first | rfl | (simp; done) | (simp [*]; done), by repeat (first | exact Drawn0.refl _ | apply Drawn0.step)⟩
    ·
     rw [if_neg c19] at H
     have c19b0 : decide (1 ≤ (a0.size : Int)) = false := decide_eq_false c19
     have c19b1 : decide (1 ≤ a0.size) = false := decide_eq_false (by omega)
     clear c19
     obtain rfl := Option.some.inj H
     go_wp2
     go_ret
     exact ⟨by first | rfl | (simp; done) | (simp [*]; done), by repeat (first | exact Drawn0.refl _ | apply Drawn0.step)⟩
def trivetref08_Good.l0 : Nat → List ByteArray → List ByteArray → Int → Int → Option (Bool)
 | 0, _, _, _, _ => none
 | k + 1, x3, x11, x12, x13 => if x13 < x12 then (if 0 ≤ x13 then (if x13 < (x11.length : Int) then ((trivetref07_Name.f k (rdOf ByteArray.empty x11 x13)).bind fun t113 => (if t113 = true then (trivetref08_Good.l0 k x3 x11 x12 (wrap64 (x13 + 1))) else (some false))) else (none)) else (none)) else (some (decide ((x3.length : Int) ≤ 8)))
def trivetref08_Good.f (k : Nat) (a0 : ByteArray) : Option (Bool) := if (a0.size : Int) > 64 then (some false) else ((trivetref08_Words.f k a0 46).bind fun t109 => (trivetref08_Good.l0 k t109 t109 (t109.length : Int) 0))
theorem trivetref08_Good.mono_l : ∀ k, (∀ y0 y1 y2 y3, LeO (trivetref08_Good.l0 k y0 y1 y2 y3) (trivetref08_Good.l0 (k + 1) y0 y1 y2 y3))
 | 0 => fun _ _ _ _ r h => by simp [trivetref08_Good.l0] at h
 | k + 1 => by
  have ih0 := trivetref08_Good.mono_l k
  ·
   intro y0 y1 y2 y3
   unfold trivetref08_Good.l0
   repeat' first
   | (with_reducible exact ih0 _ _ _ _)
   | (with_reducible exact trivetref07_Name.mono _ _)
   | (with_reducible exact trivetref08_Words.mono _ _ _)
   | (with_reducible exact LeO.refl _)
   | (with_reducible exact LeO.none _)
   | (with_reducible refine LeO.ite ?_ ?_)
   | (with_reducible refine LeO.bind ?_ (fun _ => ?_))
   | exact ih0 _ _ _ _
   | exact trivetref07_Name.mono _ _
   | exact trivetref08_Words.mono _ _ _
   | exact LeO.none _
   | refine LeO.ite ?_ ?_
   | refine LeO.bind ?_ (fun _ => ?_)
theorem trivetref08_Good.mono : ∀ a0 k, LeO (trivetref08_Good.f k a0) (trivetref08_Good.f (k + 1) a0) := by
 intro a0 k
 have ih0 := trivetref08_Good.mono_l k
 unfold trivetref08_Good.f
 repeat' first
   | (with_reducible exact ih0 _ _ _ _)
   | (with_reducible exact trivetref07_Name.mono _ _)
   | (with_reducible exact trivetref08_Words.mono _ _ _)
   | (with_reducible exact LeO.refl _)
   | (with_reducible exact LeO.none _)
   | (with_reducible refine LeO.ite ?_ ?_)
   | (with_reducible refine LeO.bind ?_ (fun _ => ?_))
   | exact ih0 _ _ _ _
   | exact trivetref07_Name.mono _ _
   | exact trivetref08_Words.mono _ _ _
   | exact LeO.none _
   | refine LeO.ite ?_ ?_
   | refine LeO.bind ?_ (fun _ => ?_)
theorem trivetref08_Good.calls (k : Nat) (a0 : ByteArray) (r : Bool) (w : World) (h : trivetref08_Good.f k a0 = some r) :
  Calls Tryz.prog 63 #[.string a0] w fun e w' => e = .returned (.bool r) ∧ Below w.heap.size w w' := by
 have HB := Amk (Below.refl w.heap.size w)
 have H : (if (a0.size : Int) > 64 then (some false) else ((trivetref08_Words.f k a0 46).bind fun t109 => (trivetref08_Good.l0 k t109 t109 (t109.length : Int) 0))) = some r := h
 clear h
 by_cases c2 : (a0.size : Int) > 64
 ·
  rw [if_pos c2] at H
  have c2b0 : decide (64 < (a0.size : Int)) = true := decide_eq_true c2
  have c2b1 : decide (64 < a0.size) = true := decide_eq_true (by omega)
  clear c2
  obtain rfl := Option.some.inj H
  go_enter Tryz.func63, Tryz.ntmps63
  go_wp2
  go_ret
  exact ⟨by first | rfl | (simp [errW_none, errW_some] <;> rfl) | (simp [*, errW_none, errW_some] <;> rfl), by repeat (first | (with_reducible first | exact HB.out | apply bal | apply pw_below_drewN | apply bdr) | exact HB.out)⟩
 ·
  rw [if_neg c2] at H
  have c2b0 : decide (64 < (a0.size : Int)) = false := decide_eq_false c2
  have c2b1 : decide (64 < a0.size) = false := decide_eq_false (by omega)
  clear c2
  replace H := Option.bind_eq_some_iff.mp H
  obtain ⟨t109, A30, H⟩ := H
  replace H : (trivetref08_Good.l0 k t109 t109 (t109.length : Int) 0) = some r := H
  have A3 := Amk A30
  clear A30
  have H' := Amk H
  clear H
  go_enter Tryz.func63, Tryz.ntmps63
  go_wp2_with (first | ((with_reducible refine gate_callee (f := 109) rfl ?_); refine goesL_ (some 10) rfl rfl Tryz.func109 (by kernel_rfl) rfl #[.string a0, .int .u8 46] rfl (by (try simp only [List.map_toArray, List.map_cons, List.map_nil]); first | done | rfl | (simp only [List.length_drop, List.length_take]; rfl)) ?_; (with_reducible refine (trivetref08_Words.calls k a0 46 t109 _ A3.out).mono ?_); rintro e w4 ⟨v110, rfl, ho0, hb⟩; refine ⟨_, rfl, ?_⟩; have n0_ := Amk (Kd.R_lower ho0 (below_size (by repeat (first | (with_reducible first | exact HB.out | apply bal | apply pw_below_drewN | apply bdr) | exact HB.out)))); have n1_ := Amk (below_step (by repeat (first | (with_reducible first | exact HB.out | apply bal | apply pw_below_drewN | apply bdr) | exact HB.out)) hb); clear HB; have HO111 := n0_; have HB := n1_; clear n0_ n1_; (try clear hb); (try clear hb2); (try clear hk); (try clear hi); (try clear ho0); obtain ⟨Ao5, co5, eo5⟩ := Kd.R_slice HO111.out; subst eo5))
  go_loopg [13] k (fun kq v13 w' => ∃ (x13_1 : Int), v13 = .int .i64 x13_1 ∧ Aside0 (trivetref08_Good.l0 kq t109 t109 (t109.length : Int) x13_1 = some r) ∧ Aside0 (kq ≤ k) ∧ Aside0 (Kd.R Kd.string 9 w' w.heap.size (fun _ => True) (.slice Ao5 t109.length co5) t109) ∧ Aside0 (Kd.R Kd.string 9 w' w.heap.size (fun _ => True) (.slice Ao5 t109.length co5) t109) ∧ Aside0 (Below w.heap.size w w'))
  case atStart => exact ⟨(0), (by first | rfl | (simp; done) | (simp [*]; done)), H', ⟨Nat.le_refl _⟩, ⟨by (with_reducible repeat (first | apply Kd.R_alloc | apply Kd.R_drewN | apply Kd.R_drew)); exact HO111.out⟩, ⟨by (with_reducible repeat (first | apply Kd.R_alloc | apply Kd.R_drewN | apply Kd.R_drew)); exact HO111.out⟩, ⟨by repeat (first | (with_reducible first | exact HB.out | apply bal | apply pw_below_drewN | apply bdr) | exact HB.out)⟩⟩
  case round =>
   clear H'
   try clear c1
   try clear c2
   try clear c2b0
   try clear c2b1
   try clear p2
   obtain ⟨x13_1, rfl, HA, HK1, HO_3, HO_11, HB⟩ := hrel
   cases gk with
   | zero => exact absurd HA.out (by simp [trivetref08_Good.l0])
   | succ k1 =>
    have H := HA.out
    clear HA
    simp only [trivetref08_Good.l0] at H
    by_cases c6 : x13_1 < (t109.length : Int)
    ·
     rw [if_pos c6] at H
     have c6b0 : decide (x13_1 < (t109.length : Int)) = true := decide_eq_true c6
     clear c6
     by_cases c7 : 0 ≤ x13_1
     ·
      rw [if_pos c7] at H
      have c7b0 : decide (0 ≤ x13_1) = true := decide_eq_true c7
      clear c7
      by_cases c8 : x13_1 < (t109.length : Int)
      ·
       rw [if_pos c8] at H
       have c8b0 : decide (x13_1 < (t109.length : Int)) = true := decide_eq_true c8
       clear c8
       replace H := Option.bind_eq_some_iff.mp H
       obtain ⟨t113, A90, H⟩ := H
       replace H : (if t113 = true then (trivetref08_Good.l0 k1 t109 t109 (t109.length : Int) (wrap64 (x13_1 + 1))) else (some false)) = some r := H
       have A9 := Amk A90
       clear A90
       by_cases c10 : t113 = true
       ·
        subst c10
        have H1 : (trivetref08_Good.l0 k1 t109 t109 (t109.length : Int) (wrap64 (x13_1 + 1))) = some r := by rw [if_pos rfl] at H; exact H
        clear H
        have H := H1
        clear H1
        have H' := Amk H
        clear H
        have p112 : 0 ≤ (x13_1 : Int) := of_decide_eq_true (by first | (with_reducible assumption) | assumption)
        have q112 : x13_1 < (t109.length : Int) := of_decide_eq_true (by first | (with_reducible assumption) | assumption)
        obtain ⟨ad112, e112, hx112_0⟩ := Kd.at_string (Kd.R_reads' HO_11.out).2.2 x13_1 p112 q112
        cases e112
        replace p112 := eq_true p112
        replace q112 := eq_true q112
        go_wp2_with (first | ((with_reducible refine gate_callee (f := 110) rfl ?_); refine goesL_ (some 18) rfl rfl Tryz.func110 (by kernel_rfl) rfl #[.string (rdOf ByteArray.empty t109 x13_1)] rfl (by (try simp only [List.map_toArray, List.map_cons, List.map_nil]); first | done | rfl | (simp only [List.length_drop, List.length_take]; rfl)) ?_; (with_reducible refine (trivetref07_Name.calls k1 (rdOf ByteArray.empty t109 x13_1) true _ A9.out).mono ?_); rintro e w' ⟨rfl, ⟨nd, rfl⟩⟩; refine ⟨_, rfl, ?_⟩))
        go_roundg k1
        case measure => have := HK1.out; omega
        case rel => exact ⟨(wrap64 (x13_1 + 1)), (by first | rfl | (simp; done) | (simp [*]; done)), H', ⟨by have := HK1.out; omega⟩, ⟨by (with_reducible repeat (first | apply Kd.R_alloc | apply Kd.R_drewN | apply Kd.R_drew)); exact HO_3.out⟩, ⟨by (with_reducible repeat (first | apply Kd.R_alloc | apply Kd.R_drewN | apply Kd.R_drew)); exact HO_11.out⟩, ⟨by repeat (first | (with_reducible first | exact HB.out | apply bal | apply pw_below_drewN | apply bdr) | exact HB.out)⟩⟩
       ·
        replace c10 := Bool.eq_false_iff.mpr c10
        subst c10
        have H1 : (some false) = some r := by rw [if_neg (show ¬ (false = true) by decide)] at H; exact H
        clear H
        have H := H1
        clear H1
        obtain rfl := Option.some.inj H
        have p112 : 0 ≤ (x13_1 : Int) := of_decide_eq_true (by first | (with_reducible assumption) | assumption)
        have q112 : x13_1 < (t109.length : Int) := of_decide_eq_true (by first | (with_reducible assumption) | assumption)
        obtain ⟨ad112, e112, hx112_0⟩ := Kd.at_string (Kd.R_reads' HO_11.out).2.2 x13_1 p112 q112
        cases e112
        replace p112 := eq_true p112
        replace q112 := eq_true q112
        go_wp2_with (first | ((with_reducible refine gate_callee (f := 110) rfl ?_); refine goesL_ (some 18) rfl rfl Tryz.func110 (by kernel_rfl) rfl #[.string (rdOf ByteArray.empty t109 x13_1)] rfl (by (try simp only [List.map_toArray, List.map_cons, List.map_nil]); first | done | rfl | (simp only [List.length_drop, List.length_take]; rfl)) ?_; (with_reducible refine (trivetref07_Name.calls k1 (rdOf ByteArray.empty t109 x13_1) false _ A9.out).mono ?_); rintro e w' ⟨rfl, ⟨nd, rfl⟩⟩; refine ⟨_, rfl, ?_⟩))
        go_ret
        exact ⟨by first | rfl | (simp [errW_none, errW_some] <;> rfl) | (simp [*, errW_none, errW_some] <;> rfl), by repeat (first | (with_reducible first | exact HB.out | apply bal | apply pw_below_drewN | apply bdr) | exact HB.out)⟩
      ·
       rw [if_neg c8] at H
       exact absurd H (by simp)
     ·
      rw [if_neg c7] at H
      exact absurd H (by simp)
    ·
     rw [if_neg c6] at H
     have c6b0 : decide (x13_1 < (t109.length : Int)) = false := decide_eq_false c6
     clear c6
     obtain rfl := Option.some.inj H
     go_wp2
     go_ret
     exact ⟨by first | rfl | (simp [errW_none, errW_some] <;> rfl) | (simp [*, errW_none, errW_some] <;> rfl), by repeat (first | (with_reducible first | exact HB.out | apply bal | apply pw_below_drewN | apply bdr) | exact HB.out)⟩
end Go.Proofs.YtednegmjjjdinaaGreatDoor.QG
