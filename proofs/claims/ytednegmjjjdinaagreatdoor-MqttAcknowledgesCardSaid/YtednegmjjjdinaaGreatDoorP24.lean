/- Texts of this claim's author, joined and pruned by a program of his (pack.py): Ln, Lo. -/
import Derived.Test.YtednegmjjjdinaaGreatDoorP0
import Derived.Test.YtednegmjjjdinaaGreatDoorP1
import Derived.Test.YtednegmjjjdinaaGreatDoorP2
import Derived.Test.YtednegmjjjdinaaGreatDoorP3
import Derived.Test.YtednegmjjjdinaaGreatDoorP4
import Derived.Test.YtednegmjjjdinaaGreatDoorP5
import Derived.Test.YtednegmjjjdinaaGreatDoorP7
import Derived.Test.YtednegmjjjdinaaGreatDoorP10
import Derived.Test.YtednegmjjjdinaaGreatDoorP11
import Derived.Test.YtednegmjjjdinaaGreatDoorP12
import Derived.Test.YtednegmjjjdinaaGreatDoorP13
import Derived.Test.YtednegmjjjdinaaGreatDoorP14
import Derived.Test.YtednegmjjjdinaaGreatDoorP15
import Derived.Test.YtednegmjjjdinaaGreatDoorP16
import Derived.Test.YtednegmjjjdinaaGreatDoorP17
import Derived.Test.YtednegmjjjdinaaGreatDoorP18
set_option maxRecDepth 100000
set_option maxHeartbeats 4000000
open Go.Proofs.YtednegmjjjdinaaGreatDoorW.PrintWords renaming blk_cell → bqc, below_alloc → bal, below_then → bth
open Go.Proofs.YtednegmjjjdinaaGreatDoorW.PrintWords.Aside0 renaming mk → Amk
namespace Go.Proofs.YtednegmjjjdinaaGreatDoor.Ext
open Go.RowKit Go.Proofs.YtednegmjjjdinaaGreatDoorW.PrintWords Go.Proofs.YtednegmjjjdinaaGreatDoorW.PrintLast Go.Proofs.YtednegmjjjdinaaGreatDoorW.PrintMore
set_option linter.unusedVariables false
set_option linter.unusedSimpArgs false
theorem ackL_snoc (l : List BAct) (x : BAct) : ackL (l ++ [x]) = ackL l ++ ackOf x := by simp [ackL]
theorem ackOf_len (x : BAct) : (ackOf x).length ≤ 4 := by
 unfold ackOf
 split
 ·
  rename_i h; rw [Array.length_toList]; exact Nat.le_of_eq h.2.1
 ·
  simp
theorem ackL_len : ∀ l : List BAct, (ackL l).length ≤ 4 * l.length
 | [] => by simp [ackL]
 | a :: l => by
  have h1 := ackOf_len a
  have h2 := ackL_len l
  have e : ackL (a :: l) = ackOf a ++ ackL l := by simp [ackL]
  rw [e, List.length_append, List.length_cons]; omega
theorem acks_calls (l : List BAct) (A : Option Addr) (n c : Nat) (w : World) (hA : kAct.C w A n l) (hn : n ≤ 1048576) : Calls Tryz.prog 28 #[.slice A n c] w fun e w' => e = .returned (.string ⟨(ackL l).toArray⟩) ∧ Below w.heap.size w w' := by
 have HA := Amk hA
 have HN : Aside0 (l.length = n) := ⟨hA.1⟩
 clear hA
 go_enter Tryz.func28, Tryz.ntmps28
 go_wp2_with fail
 go_loopg [8, 3] n (fun kq v8 v3 wx => ∃ (i : Nat) (O : ByteArray), v8 = .int .i64 (i : Nat) ∧ v3 = .string O ∧ i + kq = n ∧ Aside0 (O.data.toList = ackL (l.take i)) ∧ Aside0 (Below w.heap.size w wx))
 case atStart => exact ⟨0, _, rfl, rfl, by omega, ⟨rfl⟩, ⟨Below.refl _ _⟩⟩
 case round =>
  obtain ⟨i, O, rfl, rfl, hi, HO, HB⟩ := hrel
  cases gk with
  | zero =>
   have hge : decide ((i : Int) < (n : Int)) = false := decide_eq_false (by omega)
   have hge2 : decide (i < n) = false := decide_eq_false (by omega)
   have HOO : Aside0 (O = ⟨(ackL l).toArray⟩) := ⟨ba_ext (by have := HO.out; rwa [List.take_of_length_le (by have := HN.out; omega)] at this)⟩
   go_wp2_with fail
   go_ret
   exact ⟨by rw [HOO.out]; rfl, HB.out⟩
  | succ g =>
   have hlt : decide ((i : Int) < (n : Int)) = true := decide_eq_true (by omega)
   have hlt2 : decide (i < n) = true := decide_eq_true (by omega)
   have hib : i < 1048576 := by omega
   have hil : i < l.length := by have := HN.out; omega
   obtain ⟨ad, cs, rfl, _, hK, hcc⟩ := Kd.C_get (Kd.C_below HA.out HB.out) endAct (i : Int) (by omega) (by omega)
   simp only [Int.toNat_natCast] at hcc hK
   obtain ⟨x, hx⟩ : ∃ x, l.getD i endAct = x := ⟨_, rfl⟩
   have HTK : Aside0 (ackL (l.take (i + 1)) = ackL (l.take i) ++ ackOf x) := ⟨by rw [List.take_succ_eq_append_getElem hil, ackL_snoc]; congr 2; rw [← hx]; simp [hil]⟩
   have hOl : O.size ≤ 4194304 := by
    have h1 := ackL_len (l.take i)
    rw [← HO.out, Array.length_toList, List.length_take] at h1
    have : O.size = O.data.size := rfl
    omega
   rw [hx] at hK
   clear hx
   obtain ⟨AO, cO, rfl, _, _⟩ := kAct_open hK
   obtain ⟨kind, bytes, ops, ref, text⟩ := x
   simp only at *
   obtain ⟨nO, hnO⟩ : ∃ nO, ops.length = nO := ⟨_, rfl⟩
   rw [hnO] at hcc
   have HRG : Aside0 (∀ q u, [.int .i64 kind, .string bytes, .slice AO nO cO, .int .i64 ref, .string text][q]? = some u → wr.cell? ((ad.add (i * 5)).add q) = some u) := ⟨fun q u hu => by rw [add_add]; exact hcc q u hu⟩
   clear hcc hK
   by_cases hk : kind = 1
   case neg =>
    have hk1 : (kind == 1) = false := by simpa using hk
    have hk2 : decide (kind = 1) = false := decide_eq_false hk
    have HT2 : Aside0 (O.data.toList = ackL (l.take (i + 1))) := ⟨by rw [HTK.out, HO.out]; unfold ackOf; rw [if_neg (fun h => hk h.1), List.append_nil]⟩
    go_wp2_with (first
     | ((with_reducible refine gate_dst (N := 11) rfl ?_); refine wpList_load_at rfl 57 (.tmp 10) rfl (ad.add (i * 5)) rfl [.int .i64 kind, .string bytes, .slice AO nO cO, .int .i64 ref, .string text] _ HRG.out Tryz.underlying57 rfl (by kernel_rfl) ?_)
     | ((with_reducible refine gate_store (t := 57) (p := 5) rfl ?_); refine wpList_store_blk 57 (.tmp 5) (.tmp 11) rfl rfl rfl (g := wr.heap.size) (e := 57) (.agg #[.int .i64 kind, .string bytes, .slice AO nO cO, .int .i64 ref, .string text]) [.int .i64 kind, .string bytes, .slice AO nO cO, .int .i64 ref, .string text] rfl rfl rfl (heap_alloc_new wr _) (by kernel_rfl) rfl (by simp [mqCells, Value.oneCell']) ?_; intro W3 hw; have HB5 := Amk (bth HB.out HB.out.size (hw.below (bal (Below.refl wr.heap.size wr) _) (by simp) (Nat.le_refl _))); have ck := (bqc hw.blk 0).trans (show _ = some (Value.int .i64 kind) from rfl); have cb := (bqc hw.blk 1).trans (show _ = some (Value.string bytes) from rfl); clear hw))
    go_roundg g
    case rel => exact ⟨i + 1, _, by go_num, rfl, by omega, HT2, HB5⟩
    case measure => omega
   case pos =>
    subst hk
    by_cases h4 : bytes.size = 4
    case neg =>
     have h41 : ((bytes.size : Int) == 4) = false := by simp; omega
     have h42 : decide ((bytes.size : Int) = 4) = false := decide_eq_false (by omega)
     have h43 : decide (bytes.size = 4) = false := decide_eq_false h4
     have HT2 : Aside0 (O.data.toList = ackL (l.take (i + 1))) := ⟨by rw [HTK.out, HO.out]; unfold ackOf; rw [if_neg (fun h => h4 h.2.1), List.append_nil]⟩
     go_wp2_with (first
      | ((with_reducible refine gate_dst (N := 11) rfl ?_); refine wpList_load_at rfl 57 (.tmp 10) rfl (ad.add (i * 5)) rfl [.int .i64 1, .string bytes, .slice AO nO cO, .int .i64 ref, .string text] _ HRG.out Tryz.underlying57 rfl (by kernel_rfl) ?_)
      | ((with_reducible refine gate_store (t := 57) (p := 5) rfl ?_); refine wpList_store_blk 57 (.tmp 5) (.tmp 11) rfl rfl rfl (g := wr.heap.size) (e := 57) (.agg #[.int .i64 1, .string bytes, .slice AO nO cO, .int .i64 ref, .string text]) [.int .i64 1, .string bytes, .slice AO nO cO, .int .i64 ref, .string text] rfl rfl rfl (heap_alloc_new wr _) (by kernel_rfl) rfl (by simp [mqCells, Value.oneCell']) ?_; intro W3 hw; have HB5 := Amk (bth HB.out HB.out.size (hw.below (bal (Below.refl wr.heap.size wr) _) (by simp) (Nat.le_refl _))); have ck := (bqc hw.blk 0).trans (show _ = some (Value.int .i64 1) from rfl); have cb := (bqc hw.blk 1).trans (show _ = some (Value.string bytes) from rfl); clear hw))
     go_roundg g
     case rel => exact ⟨i + 1, _, by go_num, rfl, by omega, HT2, HB5⟩
     case measure => omega
    case pos =>
     obtain ⟨⟨bl⟩⟩ := bytes
     have h4l : bl.length = 4 := h4
     obtain ⟨b0, b1, b2, b3, rfl⟩ : ∃ b0 b1 b2 b3, bl = [b0, b1, b2, b3] := by
      match bl, h4l with
      | [b0, b1, b2, b3], _ => exact ⟨_, _, _, _, rfl⟩
     clear h4 h4l
     by_cases h64 : b0 = 64 ∨ b0 = 80
     case neg =>
      have h5 : b0.toNat ≠ 64 := fun h => h64 (.inl (UInt8.toNat.inj h))
      have h6 : b0.toNat ≠ 80 := fun h => h64 (.inr (UInt8.toNat.inj h))
      have h51 : decide ((b0.toNat : Int) = 64) = false := decide_eq_false (by omega)
      have h61 : decide ((b0.toNat : Int) = 80) = false := decide_eq_false (by omega)
      have h52 : ∀ hp, ((((⟨⟨[b0, b1, b2, b3]⟩⟩ : ByteArray)[0]'hp).toNat : Int) == 64) = false := fun _ => by show ((b0.toNat : Int) == 64) = false; simp; omega
      have h62 : ∀ hp, ((((⟨⟨[b0, b1, b2, b3]⟩⟩ : ByteArray)[0]'hp).toNat : Int) == 80) = false := fun _ => by show ((b0.toNat : Int) == 80) = false; simp; omega
      have HT2 : Aside0 (O.data.toList = ackL (l.take (i + 1))) := ⟨by rw [HTK.out, HO.out]; unfold ackOf; rw [if_neg (by rintro ⟨_, _, h | h⟩ <;> simp at h <;> exact h64 (by simp [h])), List.append_nil]⟩
      go_wp2_with (first
       | ((with_reducible refine gate_dst (N := 11) rfl ?_); refine wpList_load_at rfl 57 (.tmp 10) rfl (ad.add (i * 5)) rfl [.int .i64 1, .string ⟨⟨[b0, b1, b2, b3]⟩⟩, .slice AO nO cO, .int .i64 ref, .string text] _ HRG.out Tryz.underlying57 rfl (by kernel_rfl) ?_)
       | ((with_reducible refine gate_store (t := 57) (p := 5) rfl ?_); refine wpList_store_blk 57 (.tmp 5) (.tmp 11) rfl rfl rfl (g := wr.heap.size) (e := 57) (.agg #[.int .i64 1, .string ⟨⟨[b0, b1, b2, b3]⟩⟩, .slice AO nO cO, .int .i64 ref, .string text]) [.int .i64 1, .string ⟨⟨[b0, b1, b2, b3]⟩⟩, .slice AO nO cO, .int .i64 ref, .string text] rfl rfl rfl (heap_alloc_new wr _) (by kernel_rfl) rfl (by simp [mqCells, Value.oneCell']) ?_; intro W3 hw; have HB5 := Amk (bth HB.out HB.out.size (hw.below (bal (Below.refl wr.heap.size wr) _) (by simp) (Nat.le_refl _))); have ck := (bqc hw.blk 0).trans (show _ = some (Value.int .i64 1) from rfl); have cb := (bqc hw.blk 1).trans (show _ = some (Value.string ⟨⟨[b0, b1, b2, b3]⟩⟩) from rfl); clear hw))
      go_roundg g
      case rel => exact ⟨i + 1, _, by go_num, rfl, by omega, HT2, HB5⟩
      case measure => omega
     case pos =>
      have HT2 : Aside0 ((O ++ ⟨⟨[b0, b1, b2, b3]⟩⟩).data.toList = ackL (l.take (i + 1))) := ⟨by rw [HTK.out, ← HO.out]; unfold ackOf; rw [if_pos ⟨rfl, rfl, by rcases h64 with h | h <;> simp [h]⟩]; simp⟩
      have hIS : O.size + (⟨⟨[b0, b1, b2, b3]⟩⟩ : ByteArray).size ≤ 9223372036854775807 := by
       have : (⟨⟨[b0, b1, b2, b3]⟩⟩ : ByteArray).size = 4 := rfl
       omega
      rcases h64 with rfl | rfl
      ·
       have h52 : ∀ hp, ((((⟨⟨[64, b1, b2, b3]⟩⟩ : ByteArray)[0]'hp).toNat : Int) == 64) = true := fun _ => rfl
       have h62 : ∀ hp, ((((⟨⟨[64, b1, b2, b3]⟩⟩ : ByteArray)[0]'hp).toNat : Int) == 80) = false := fun _ => rfl
       go_wp2_with (first
        | ((with_reducible refine gate_dst (N := 11) rfl ?_); refine wpList_load_at rfl 57 (.tmp 10) rfl (ad.add (i * 5)) rfl [.int .i64 1, .string ⟨⟨[64, b1, b2, b3]⟩⟩, .slice AO nO cO, .int .i64 ref, .string text] _ HRG.out Tryz.underlying57 rfl (by kernel_rfl) ?_)
        | ((with_reducible refine gate_store (t := 57) (p := 5) rfl ?_); refine wpList_store_blk 57 (.tmp 5) (.tmp 11) rfl rfl rfl (g := wr.heap.size) (e := 57) (.agg #[.int .i64 1, .string ⟨⟨[64, b1, b2, b3]⟩⟩, .slice AO nO cO, .int .i64 ref, .string text]) [.int .i64 1, .string ⟨⟨[64, b1, b2, b3]⟩⟩, .slice AO nO cO, .int .i64 ref, .string text] rfl rfl rfl (heap_alloc_new wr _) (by kernel_rfl) rfl (by simp [mqCells, Value.oneCell']) ?_; intro W3 hw; have HB5 := Amk (bth HB.out HB.out.size (hw.below (bal (Below.refl wr.heap.size wr) _) (by simp) (Nat.le_refl _))); have ck := (bqc hw.blk 0).trans (show _ = some (Value.int .i64 1) from rfl); have cb := (bqc hw.blk 1).trans (show _ = some (Value.string ⟨⟨[64, b1, b2, b3]⟩⟩) from rfl); clear hw))
       go_roundg g
       case rel => exact ⟨i + 1, _, by go_num, rfl, by omega, HT2, HB5⟩
       case measure => omega
      ·
       have h52 : ∀ hp, ((((⟨⟨[80, b1, b2, b3]⟩⟩ : ByteArray)[0]'hp).toNat : Int) == 64) = false := fun _ => rfl
       have h62 : ∀ hp, ((((⟨⟨[80, b1, b2, b3]⟩⟩ : ByteArray)[0]'hp).toNat : Int) == 80) = true := fun _ => rfl
       go_wp2_with (first
        | ((with_reducible refine gate_dst (N := 11) rfl ?_); refine wpList_load_at rfl 57 (.tmp 10) rfl (ad.add (i * 5)) rfl [.int .i64 1, .string ⟨⟨[80, b1, b2, b3]⟩⟩, .slice AO nO cO, .int .i64 ref, .string text] _ HRG.out Tryz.underlying57 rfl (by kernel_rfl) ?_)
        | ((with_reducible refine gate_store (t := 57) (p := 5) rfl ?_); refine wpList_store_blk 57 (.tmp 5) (.tmp 11) rfl rfl rfl (g := wr.heap.size) (e := 57) (.agg #[.int .i64 1, .string ⟨⟨[80, b1, b2, b3]⟩⟩, .slice AO nO cO, .int .i64 ref, .string text]) [.int .i64 1, .string ⟨⟨[80, b1, b2, b3]⟩⟩, .slice AO nO cO, .int .i64 ref, .string text] rfl rfl rfl (heap_alloc_new wr _) (by kernel_rfl) rfl (by simp [mqCells, Value.oneCell']) ?_; intro W3 hw; have HB5 := Amk (bth HB.out HB.out.size (hw.below (bal (Below.refl wr.heap.size wr) _) (by simp) (Nat.le_refl _))); have ck := (bqc hw.blk 0).trans (show _ = some (Value.int .i64 1) from rfl); have cb := (bqc hw.blk 1).trans (show _ = some (Value.string ⟨⟨[80, b1, b2, b3]⟩⟩) from rfl); clear hw))
       go_roundg g
       case rel => exact ⟨i + 1, _, by go_num, rfl, by omega, HT2, HB5⟩
       case measure => omega
theorem range_below {W W1 : World} {b o : Nat} {cs : List Value} (h : W.rangeAt b o cs) (hb : Below W.heap.size W W1) : W1.rangeAt b o cs := fun q u hu => (hb.cell (World.block_lt_of_cell? _ _ (h q u hu))).trans (h q u hu)
structure Due (s : Mq) (o : BOp) (e : Int) (said : List UInt8) : Prop where
 none_ : ¬ (o.kind = 5 ∧ o.mdur = true ∧ e = 0 ∧ s.down = false) → said = []
 some_ : o.kind = 5 → o.mdur = true → e = 0 → s.down = false → ∃ x u v : UInt8, said = [x, 2, u, v] ∧ (x = 80 → o.text = s.client ∧ o.n = u.toNat * 256 + v.toNat)
theorem due_of {s : Mq} {a : BAct} (ha : ActIs s.client a) (h2 : a.kind = 2) (e : Int) : ∃ o ops, a.ops = o :: ops ∧ ops.length ≤ 15 ∧ Due s o e (ackL (toldM s a.ref a.text (numOf a.text) e).2) := by
 obtain ⟨o, ops, h1, h3, h4, h5⟩ := toldM_acks ha h2 e
 refine ⟨o, ops, h1, h3, ⟨fun h => ?_, fun k1 k2 k3 k4 => ?_⟩⟩
 ·
  cases hs : ackL (toldM s a.ref a.text (numOf a.text) e).2 with
  | nil => rfl
  | cons x r => exact absurd (h4.2 (by rw [hs]; simp)) h
 ·
  have hn := h4.1 ⟨k1, k2, k3, k4⟩
  cases hs : ackL (toldM s a.ref a.text (numOf a.text) e).2 with
  | nil => exact absurd hs hn
  | cons x r =>
   obtain ⟨u, v, h6, h7⟩ := h5 x (by rw [hs]; rfl)
   exact ⟨x, u, v, hs ▸ h6, h7⟩
theorem ackn_calls (conn : Int) (hc0 : -9223372036854775808 ≤ conn) (hc1 : conn ≤ 9223372036854775807) (AH : Option Addr) (nH cH : Nat) (AA : Option Addr) (nA cA : Nat) (AO0 : Option Addr) (nO0 cO0 : Nat) (chunks : List ByteArray) (answers : List Int) (outs : List K.S66) (w : World) (hG : WI w)
  (hC : Kd.string.C w AH nH chunks) (hA : (Kd.int .i64).C w AA nA answers) (hO : K.k66.C w AO0 nO0 outs) (hnH : nH ≤ 140737488355328) (hnA : nA ≤ 140737488355328) (hnO : nO0 ≤ 140737488355328) (hcs : ∀ c ∈ chunks, c.size ≤ 140737488355328)
  (hos : ∀ o ∈ outs, o.f6.f2.length ≤ 140737488355328 ∧ ∀ x ∈ o.f6.f2, x.f0.size ≤ 140737488355328) :
  Calls Tryz.prog 6 #[.int .i64 conn, .agg #[.slice AH nH cH, .slice AA nA cA, .slice AO0 nO0 cO0]] w fun e w' => e = .returned (.bool true) ∧ Below w.heap.size w w' := by
 have HG := Amk hG
 have HC := Amk hC
 have HA := Amk hA
 have HO := Amk hO
 have HNB := Amk (And.intro hnH (And.intro hnA hnO))
 have HCS := Amk hcs
 have HOS := Amk hos
 have HNH : Aside0 (chunks.length = nH) := ⟨hC.1⟩
 have HB0 := Amk (bal (Below.refl w.heap.size w) (.cells #[.slice AH nH cH, .slice AA nA cA, .slice AO0 nO0 cO0] 41))
 have HBX := Amk (heap_alloc_new w (.cells #[.slice AH nH cH, .slice AA nA cA, .slice AO0 nO0 cO0] 41))
 clear hG hC hA hO hnH hnA hnO hcs hos
 go_enter Tryz.func6, Tryz.ntmps6
 go_upto_region 3 with (go_at_call 21; refine Calls.mono (wakes_calls _ (HG.out.below HB0.out)) ?_; rintro e1 w1 ⟨rfl, hb⟩; have HB1 := Amk (bth HB0.out HB0.out.size hb); have HX1 := Amk ((hb.block _ (blk_lt HBX.out)).trans HBX.out); clear hb)
 go_cut [33] (fun s33 wx => ∃ b33, s33 = .bool b33 ∧ Aside0 (b33 = false → Light chunks nA outs ∧ 0 ≤ conn ∧ conn < 8) ∧ Aside0 (Below w.heap.size w wx) ∧ Aside0 (wx.heap[w.heap.size]? = some (.cells #[.slice AH nH cH, .slice AA nA cA, .slice AO0 nO0 cO0] 41 (0, 0))))
 case first =>
  have hv : ∃ b1 b2 : Bool, decide (conn < 0) = b1 ∧ decide (8 ≤ conn) = b2 ∧ Aside0 (b1 = false → b2 = false → 0 ≤ conn ∧ conn < 8) := by
   refine ⟨_, _, rfl, rfl, ⟨fun h1 h2 => ?_⟩⟩
   have h1 := of_decide_eq_false h1
   have h2 := of_decide_eq_false h2
   omega
  obtain ⟨b1, b2, e1, e2, HV⟩ := hv
  go_wp2_with (first
   | ((with_reducible refine gate_dst (N := 24) rfl ?_); refine wpList_load_row rfl 41 (.tmp 3) rfl w.heap.size rfl 41 #[.slice AH nH cH, .slice AA nA cA, .slice AO0 nO0 cO0] (0, 0) _ HX1.out Tryz.underlying41 rfl (by kernel_rfl) ?_)
   | (go_at_call 22; refine Calls.mono (heavy_calls AH nH cH AA nA cA AO0 nO0 cO0 chunks outs _ (Kd.C_below HC.out HB1.out) (Kd.C_below HO.out HB1.out) HNB.out.1 HNB.out.2.1 HNB.out.2.2 HCS.out HOS.out) ?_; rintro e2 w2 ⟨b0, rfl, hl, hb⟩; have HL := Amk hl; have HB2 := Amk (bth HB1.out HB1.out.size hb); have HX2 := Amk ((hb.block _ (blk_lt HX1.out)).trans HX1.out); clear hb hl; cases b0 <;> cases b1 <;> cases b2))
  all_goals go_meet
  all_goals first
   | exact ⟨_, rfl, ⟨fun h => Bool.noConfusion h⟩, HB2, HX2⟩
   | exact ⟨_, rfl, ⟨fun _ => ⟨HL.out (by trivial), HV.out (by trivial) (by trivial)⟩⟩, HB2, HX2⟩
 case rest =>
  obtain ⟨b33, rfl, HV, HB2, HX2⟩ := hcut
  clear HB1 HX1 HB0 HBX
  cases b33 with
  | true =>
   go_wp2_with fail
   go_ret
   exact ⟨rfl, HB2.out⟩
  | false =>
   obtain ⟨HLt, hc2, hc3⟩ := HV.out rfl
   have hHb : nH ≤ 16384 := by have := HLt.bytes; have := HNH.out; omega
   have hAb : nA ≤ 16384 := by have := HLt.bytes; omega
   have hZb : (lists chunks).flatten.length ≤ 16384 := by have := HLt.bytes; unfold bytesIn at this; omega
   have HCN := Amk (And.intro hc2 (show conn ≤ 9223372036854775807 by omega))
   have HAB := Amk hAb
   obtain ⟨sF, nF, lF, hH⟩ := Heard.run (ansF answers) conn (lists chunks) newMq 0 good_new2
   have HLF : Aside0 (lF.length ≤ 557124) := ⟨by
    have := (hH.ok good_new2).2.1
    have hl : left newMq = 2 := by simp [left, newMq, ByteArray.size]
    rw [hl] at this; omega⟩
   have HT : Aside0 (ToHear (ansF answers) conn chunks newMq 0 [] sF lF) := ⟨⟨⟨nF, lF, hH, rfl⟩, good_new2, by simp, by simpa [newMq, ByteArray.size] using hZb⟩⟩
   have q0 := (bqc HX2.out 0).trans (show _ = some (Value.slice AH nH cH) from rfl)
   clear hH HLt hAb hZb hc2 hc3 HV HCS HOS hc0 hc1 HO
   go_upto_region 6 with (first
    | (go_at_call 26; refine Calls.mono (new_calls _) ?_; rintro e w3 ⟨rfl, hb⟩; have HB3 := Amk (bth HB2.out HB2.out.size hb); have HX3 := Amk ((hb.block _ (blk_lt HX2.out)).trans HX2.out); clear hb)
    | ((with_reducible refine gate_store (t := 45) (p := 5) rfl ?_); refine wpList_store_blk 45 (.tmp 5) (.tmp 34) rfl rfl rfl (g := w3.heap.size) (e := 45) (.agg zero7) zero7.toList rfl rfl rfl (heap_alloc_new w3 _) (by kernel_rfl) rfl (by simp [zero7, Value.oneCell']) ?_; intro W3 hw; have HB4 := Amk (hw.below (bal (Below.refl w3.heap.size w3) _) (by simp) (Nat.le_refl _)); have HDN : Aside0 (Dn w W3 w.heap.size w3.heap.size #[.slice AH nH cH, .slice AA nA cA, .slice AO0 nO0 cO0] newMq (.slice none 0 0) (.slice none 0 0)) := ⟨⟨hw.blk, (HB4.out.block _ (blk_lt HX3.out)).trans HX3.out, Kd.R_nil _ _ _ _ _, Kd.R_nil _ _ _ _ _, bth HB3.out HB3.out.size HB4.out, HB3.out.size, Nat.le_refl _⟩⟩; have q0 := (bqc HDN.out.cblk 0).trans (show _ = some (Value.slice AH nH cH) from rfl); clear hw))
   generalize w3.heap.size = sb at *
   clear HB3 HX3 HB4 HB2 HX2
   go_wp2_with fail
   go_loopg [6, 38] nH (fun kq v6 v38 wx => ∃ (j n : Nat) (s : Mq) (vW vC : Value) (all : List BAct), v6 = .int .i64 (n : Nat) ∧ v38 = .int .i64 (j : Nat) ∧ j + kq = nH ∧ Aside0 (Dn w wx w.heap.size sb #[.slice AH nH cH, .slice AA nA cA, .slice AO0 nO0 cO0] s vW vC) ∧ Aside0 (ToHear (ansF answers) conn (chunks.drop j) s n all sF lF))
   case atStart => exact ⟨0, 0, newMq, _, _, [], rfl, rfl, by omega, HDN, HT⟩
   case round =>
    clear q0 HDN HT
    obtain ⟨j, n, s, vW, vC, all, rfl, rfl, hj, HP1, HT1⟩ := hrel
    cases gk with
    | zero =>
     have hge : decide ((j : Int) < (nH : Int)) = false := decide_eq_false (by omega)
     have hge2 : decide (j < nH) = false := decide_eq_false (by omega)
     go_wp2_with fail
     go_ret
     exact ⟨rfl, HP1.out.bel⟩
    | succ g =>
     have hlt : decide ((j : Int) < (nH : Int)) = true := decide_eq_true (by omega)
     have hlt2 : decide (j < nH) = true := decide_eq_true (by omega)
     have hjb : j < 1048576 := by omega
     have hjl : j < chunks.length := by have := HC.out.1; omega
     obtain ⟨ad, rfl, hcell⟩ := Kd.at_string (Kd.C_below HC.out HP1.out.bel) (j : Int) (by omega) (by omega)
     simp only [Int.toNat_natCast] at hcell
     obtain ⟨c, hc⟩ : ∃ c, rdOf ByteArray.empty chunks (j : Int) = c := ⟨_, rfl⟩
     rw [hc] at hcell
     have hcn : chunks.drop j = c :: chunks.drop (j + 1) := by rw [List.drop_eq_getElem_cons hjl, ← hc]; simp [rdOf, hjl]
     have HT2 := HT1
     rw [hcn] at HT2
     obtain ⟨⟨cl0⟩⟩ := c
     obtain ⟨k0, HTD0⟩ := HT2.out.round
     have HTD := Amk HTD0
     have hsz := HT2.out.size
     have hIS : s.rest.size + (⟨⟨cl0⟩⟩ : ByteArray).size ≤ 9223372036854775807 := by
      have e : (lists (⟨⟨cl0⟩⟩ :: chunks.drop (j + 1))).flatten.length = cl0.length + (lists (chunks.drop (j + 1))).flatten.length := by simp [lists]
      have : (⟨⟨cl0⟩⟩ : ByteArray).size = cl0.length := rfl
      omega
     have cr := (HP1.out.cell 0).trans (show _ = some (Value.string s.rest) from rfl)
     have zr := HP1.out.frozen 0
     have HP2 := Amk (HP1.out.rest (s.rest ++ ⟨⟨cl0⟩⟩))
     clear HT2 HTD0 hcn hc hsz
     go_wp2_with fail
     generalize wr.setCell ⟨sb, 0, none⟩ (.string (s.rest ++ ⟨⟨cl0⟩⟩)) = wb at *
     clear cr zr hIS hcell hlt hlt2 HT1 HP1
     go_loopg [9, 6] (k0 + 1) (fun kq v9 v6 wx => ∃ (n : Nat) (s : Mq) (vW vC : Value) (all : List BAct), v9 = .bool (decide (0 < kq)) ∧ v6 = .int .i64 (n : Nat) ∧ Aside0 (Dn w wx w.heap.size sb #[.slice (some ad) nH cH, .slice AA nA cA, .slice AO0 nO0 cO0] s vW vC) ∧ Aside0 (ToDrain (ansF answers) conn (chunks.drop (j + 1)) kq s n all sF lF))
     case atStart => exact ⟨n, _, _, _, all, rfl, rfl, HP2, HTD⟩
     case round =>
      clear HP2 HTD
      obtain ⟨n, s, vW, vC, all, hv9, rfl, HP3, HTD⟩ := hrel
      cases gk with
      | zero =>
       simp only [Nat.lt_irrefl, decide_false] at hv9
       subst hv9
       have HTH := Amk (HTD.out.over rfl)
       go_wp2_with fail
       go_roundg g
       case rel => exact ⟨j + 1, n, s, vW, vC, all, rfl, by go_num, by omega, HP3, HTH⟩
       case measure => omega
      | succ gB =>
       simp only [Nat.zero_lt_succ, decide_true] at hv9
       subst hv9
       have hgd := HTD.out.good
       obtain ⟨a, l, b, hnx⟩ : ∃ a l b, nextM s conn = (a, l, b) := ⟨_, _, _, rfl⟩
       obtain ⟨kq, hkq, hb, hga, hl34, hlF, htt⟩ := HTD.out.next hnx
       obtain ⟨AW, nW, cW, rfl, _⟩ := R_parts HP3.out.will
       obtain ⟨AC, nC, cC, rfl, _⟩ := R_parts HP3.out.codes
       have HN27 : Aside0 (∀ W, Dn w W w.heap.size sb #[.slice (some ad) nH cH, .slice AA nA cA, .slice AO0 nO0 cO0] s (.slice AW nW cW) (.slice AC nC cC) → Calls Tryz.prog 27 #[.agg (mqCells s (.slice AW nW cW) (.slice AC nC cC)), .int .i64 conn] W (NQ W (a, l, b))) := ⟨fun W hD => by
        obtain ⟨h1, h2, h3⟩ := hD.inn hgd.1
        have h := mqnext_calls s AW cW AC cC conn W h3 (HG.out.below hD.bel) hgd HCN.out.1 HCN.out.2
        rw [hnx] at h
        rw [h1, h2]
        exact h⟩
       have HACK : Aside0 (ackL l = []) := ⟨ackL_none htt.acts⟩
       have HTT := Amk htt
       have HKQ := Amk hkq
       have HBQ := Amk hb
       have HL34 := Amk hl34
       clear HTD hgd hnx hga hlF htt hkq hb hl34
       go_wp2_with (first
        | ((with_reducible refine gate_dst (N := 49) rfl ?_); refine wpList_load_row rfl 45 (.tmp 5) rfl sb rfl 45 (mqCells s (.slice AW nW cW) (.slice AC nC cC)) (0, 0) _ HP3.out.sblk Tryz.underlying45 rfl (by kernel_rfl) ?_)
        | (go_at_call 27; refine Calls.mono (HN27.out _ HP3.out) ?_; rintro e w2 ⟨v1, v2, v3, rfl, hr1, hr2, hr3, hb⟩; have HP4 := Amk (HP3.out.below hb); have HR1 := Amk (Kd.R_lower hr1 HP3.out.sz); have HR2 := Amk (Kd.R_lower hr2 HP3.out.sz); have HR3 := Amk (Kd.R_lower hr3 HP3.out.sz); clear hr1 hr2 hr3 hb; obtain ⟨A1, n1, c1, rfl, _⟩ := R_parts HR1.out; obtain ⟨A2, n2, c2, rfl, _⟩ := R_parts HR2.out; obtain ⟨AL, nL, cL, rfl, HNL⟩ := R_parts HR3.out)
        | ((with_reducible refine gate_store (t := 45) (p := 10) rfl ?_); refine wpList_store_blk 45 (.tmp 10) (.tmp 52) rfl rfl rfl (g := w2.heap.size) (e := 45) (.agg (mqCells a (.slice A1 n1 c1) (.slice A2 n2 c2))) (mqCells a (.slice A1 n1 c1) (.slice A2 n2 c2)).toList rfl rfl rfl (heap_alloc_new w2 _) (by kernel_rfl) rfl (by simp [mqCells, Value.oneCell']) ?_; intro W3 hw; have HB3 := Amk (hw.below (bal (Below.refl w2.heap.size w2) _) (by simp) (Nat.le_refl _)); have HA3 := Amk hw.blk; have HP5 := Amk (HP4.out.below HB3.out); clear hw)
        | ((with_reducible refine gate_dst (N := 55) rfl ?_); refine wpList_load_row rfl 45 (.tmp 10) rfl w2.heap.size rfl 45 (mqCells a (.slice A1 n1 c1) (.slice A2 n2 c2)) (0, 0) _ HA3.out Tryz.underlying45 rfl (by kernel_rfl) ?_)
        | ((with_reducible refine gate_store (t := 45) (p := 5) rfl ?_); refine wpList_store_blk 45 (.tmp 5) (.tmp 55) rfl rfl rfl (g := sb) (e := 45) (.agg (mqCells a (.slice A1 n1 c1) (.slice A2 n2 c2))) (mqCells a (.slice A1 n1 c1) (.slice A2 n2 c2)).toList rfl rfl rfl HP5.out.sblk (by kernel_rfl) rfl (by simp [mqCells, Value.oneCell']) ?_; intro W4 hw; have HP6 := Amk (HP5.out.store (s' := a) (vW' := .slice A1 n1 c1) (vC' := .slice A2 n2 c2) hw (Kd.R_below HR1.out HB3.out) (Kd.R_below HR2.out HB3.out)); have HL6 := Amk (R_wroteG (Kd.R_below HR3.out HB3.out) hw HP5.out.sblk (by decide)); clear hw)
        | (go_at_call 28; refine Calls.mono (acks_calls l AL nL cL _ (HNL.out ▸ (Kd.R_reads' HL6.out).2.2) (by have := HL34.out; have := HNL.out; omega)) ?_; rw [HACK.out]; rintro e w5 ⟨rfl, hb⟩; have HP7 := Amk (HP6.out.below hb); have HL7 := Amk (Kd.R_below HL6.out hb); clear hb))
       clear HP3 HN27 HP4 HR1 HR2 HR3 HP5 HB3 HA3 HP6 HL6 HACK
       go_loopg [62, 6] nL (fun kq' v62 v6 wx => ∃ (i n : Nat) (s : Mq) (vW vC : Value) (all : List BAct), v62 = .int .i64 (i : Nat) ∧ v6 = .int .i64 (n : Nat) ∧ i + kq' = nL ∧ Aside0 (Dn w wx w.heap.size sb #[.slice (some ad) nH cH, .slice AA nA cA, .slice AO0 nO0 cO0] s vW vC) ∧ Aside0 (kAct.R 57 wx w.heap.size (fun _ => True) (.slice AL nL cL) l) ∧ Aside0 (ToTell (ansF answers) conn (chunks.drop (j + 1)) kq s n all (l.drop i) sF lF))
       case atStart => exact ⟨0, n, _, _, _, _, rfl, rfl, by omega, HP7, HL7, HTT⟩
       case round =>
        clear HP7 HL7 HTT
        obtain ⟨i, n, s, vW, vC, all, rfl, rfl, hi, HP8, HL8, HTT⟩ := hrel
        cases gk with
        | zero =>
         have hge : decide ((i : Int) < (nL : Int)) = false := decide_eq_false (by omega)
         have hge2 : decide (i < nL) = false := decide_eq_false (by omega)
         have HTD : Aside0 (ToDrain (ansF answers) conn (chunks.drop (j + 1)) kq s n all sF lF) := ⟨by
          have h := HTT.out.then_
          have : l.drop i = [] := by rw [List.drop_eq_nil_iff]; have := HNL.out; omega
          rw [this] at h
          simpa [tellM] using h⟩
         go_wp2_with fail
         go_roundg kq
         case rel => exact ⟨n, s, vW, vC, all, by rw [HBQ.out], rfl, HP8, HTD⟩
         case measure => have := HKQ.out; omega
        | succ gC =>
         have hlt : decide ((i : Int) < (nL : Int)) = true := decide_eq_true (by omega)
         have hlt2 : decide (i < nL) = true := decide_eq_true (by omega)
         have hil : i < l.length := by have := HNL.out; omega
         have hib : i < 1048576 := by have := HL34.out; have := HNL.out; omega
         obtain ⟨x, hx⟩ : ∃ x, l[i] = x := ⟨_, rfl⟩
         have hxd : l.drop i = x :: l.drop (i + 1) := by rw [List.drop_eq_getElem_cons hil, hx]
         rw [hxd] at HTT
         obtain ⟨bg, cap, hvg, _, _, _⟩ := Kd.R_form HL8.out (by omega)
         injection hvg with hAg hng hcapg
         subst hAg
         obtain ⟨cs, hcl, hM, hcc, hz⟩ := Kd.R_elem HL8.out endAct (i : Int) (by omega) (by omega)
         have hgx : l.getD (i : Int).toNat endAct = x := by rw [← hx]; simp [hil]
         rw [hgx] at hM
         obtain ⟨v2, rfl, g2⟩ := kAct_openM hM
         obtain ⟨AO, nO, cO, rfl, HNO⟩ := R_parts g2
         obtain ⟨kind, bytes, ops, ref, text⟩ := x
         have hrange : Aside0 (wr.rangeAt bg (i * 5) [.int .i64 kind, .string bytes, .slice AO nO cO, .int .i64 ref, .string text]) := ⟨fun q u hu => hcc q u hu⟩
         have HOP := Amk g2
         clear hcc hz hcl hM g2 hgx hx hng hcapg hxd
         by_cases hk : kind = 2
         case neg =>
          have hk1 : (kind == 2) = false := by simpa using hk
          have hk2 : decide (kind = 2) = false := decide_eq_false hk
          have HTT2 := Amk (HTT.out.skip (x := ⟨kind, bytes, ops, ref, text⟩) hk)
          go_wp2_with (first
           | ((with_reducible refine gate_dst (N := 65) rfl ?_); refine wpList_load_mid rfl 57 (.tmp 64) rfl bg (i * 5) rfl [.int .i64 kind, .string bytes, .slice AO nO cO, .int .i64 ref, .string text] _ hrange.out Tryz.underlying57 rfl (by kernel_rfl) ?_)
           | ((with_reducible refine gate_store (t := 57) (p := 14) rfl ?_); refine wpList_store_blk 57 (.tmp 14) (.tmp 65) rfl rfl rfl (g := wr.heap.size) (e := 57) (.agg #[.int .i64 kind, .string bytes, .slice AO nO cO, .int .i64 ref, .string text]) [.int .i64 kind, .string bytes, .slice AO nO cO, .int .i64 ref, .string text] rfl rfl rfl (heap_alloc_new wr _) (by kernel_rfl) rfl (by simp [mqCells, Value.oneCell']) ?_; intro W3 hw; have HB3 := Amk (hw.below (bal (Below.refl wr.heap.size wr) _) (by simp) (Nat.le_refl _)); have HX3 := Amk hw.blk; have HP9 := Amk (HP8.out.below HB3.out); have HL9 := Amk (Kd.R_below HL8.out HB3.out); have ck := (bqc HX3.out 0).trans (show _ = some (Value.int .i64 kind) from rfl); clear hw))
          go_roundg gC
          case rel => exact ⟨i + 1, n, s, vW, vC, all, by go_num, rfl, by omega, HP9, HL9, HTT2⟩
          case measure => omega
         case pos =>
          subst hk
          obtain ⟨tm, tk, htm⟩ : ∃ tm tk, toldM s ref text (numOf text) (ansF answers n) = (tm, tk) := ⟨_, _, rfl⟩
          have HTT2 : Aside0 (ToTell (ansF answers) conn (chunks.drop (j + 1)) kq tm (n + 1) (all ++ tk) (l.drop (i + 1)) sF lF) := ⟨by have h := HTT.out.tell (x := ⟨2, bytes, ops, ref, text⟩) rfl; rw [htm] at h; exact h⟩
          have hlt3 := HTT.out.lt (x := ⟨2, bytes, ops, ref, text⟩) rfl
          have htx := act_text (HTT.out.acts ⟨2, bytes, ops, ref, text⟩ (by simp)) rfl
          have hmok := HTT.out.ok
          have hnb : n ≤ 557124 := by have := HTT.out.asked; have := HTT.out.len; have := HLF.out; omega
          have hTK : tk.length ≤ 557124 := by have h1 := HTT2.out.len; have h2 := HLF.out; rw [List.length_append] at h1; omega
          obtain ⟨o, ops2, hops, h15, hdue⟩ := due_of (HTT.out.acts ⟨2, bytes, ops, ref, text⟩ (by simp)) rfl (ansF answers n)
          simp only at hops hdue
          rw [htm] at hdue
          subst hops
          have hnO1 : 1 ≤ nO ∧ nO ≤ 16 := by have := HNO.out; simp only [List.length_cons] at this; omega
          obtain ⟨bo, capo, hvo, _, _, _⟩ := Kd.R_form HOP.out (by simp)
          injection hvo with hAo hno hcapo
          subst hAo
          clear hno hcapo
          obtain ⟨AW, nW, cW, rfl, _⟩ := R_parts HP8.out.will
          obtain ⟨AC, nC, cC, rfl, _⟩ := R_parts HP8.out.codes
          obtain ⟨ev, hev⟩ : ∃ ev, ansF answers n = ev := ⟨_, rfl⟩
          rw [hev] at hdue htm
          obtain ⟨dn, hdn⟩ : ∃ dn, s.down = dn := ⟨_, rfl⟩
          have HTold : Aside0 (∀ W, Dn w W w.heap.size sb #[.slice (some ad) nH cH, .slice AA nA cA, .slice AO0 nO0 cO0] s (.slice AW nW cW) (.slice AC nC cC) → Calls Tryz.prog 30 #[.agg (mqCells s (.slice AW nW cW) (.slice AC nC cC)), .int .i64 conn, .agg #[.int .i64 2, .string bytes, .slice (some ⟨bo, 0, none⟩) nO cO, .int .i64 ref, .string text], .int .i64 ev] W (TQ W (tm, tk))) := ⟨fun W hD => by
           obtain ⟨h1, h2, h3⟩ := hD.inn hmok
           have h := told_calls s AW cW AC cC conn 2 ref ev bytes text (some ⟨bo, 0, none⟩) nO cO (numOf text) W h3 (HG.out.below hD.bel) hmok hlt3 htx
           rw [htm] at h
           rw [h1, h2]
           exact h⟩
          have HAns : Aside0 (∀ W, Below w.heap.size w W → Calls Tryz.prog 29 #[.agg #[.slice (some ad) nH cH, .slice AA nA cA, .slice AO0 nO0 cO0], .int .i64 n] W fun e w' => e = .returned (.int .i64 ev) ∧ Below W.heap.size W w') := ⟨fun W hB => by
           have h := answer_calls (.slice (some ad) nH cH) (.slice AO0 nO0 cO0) AA nA cA answers n (by omega) (by have := HAB.out; omega) W (Kd.C_below HA.out hB)
           rw [hev] at h
           exact h⟩
          obtain ⟨cs2, hcl2, hM2, hcc2, hz2⟩ := Kd.R_elem HOP.out zOp (0 : Int) (by omega) (by omega)
          have hgo : (o :: ops2).getD (0 : Int).toNat zOp = o := rfl
          rw [hgo] at hM2
          obtain ⟨A8, c8, rfl⟩ := hM2
          obtain ⟨ok0, ok1, ok2, ok3, ok4, ok5, ok6, ok7, ok8, ok9, ok10, ok11, ok12⟩ := o
          have HRO : Aside0 (wr.rangeAt bo 0 [.int .i64 ok0, .int .i64 ok1, .int .i64 ok2, .int .i64 ok3, .string ok4, .string ok5, .bool ok6, .bool ok7, .bool ok8, .string ok9, .string ok10, .slice A8 0 c8, .bool ok11, .int .i64 ok12]) := ⟨fun q u hu => by have h := hcc2 q u hu; rwa [show Int.toNat 0 * kOp.sz + q = 0 + q by simp] at h⟩
          have HDUE : Aside0 (Due s ⟨ok0, ok1, ok2, ok3, ok4, ok5, ok6, ok7, ok8, ok9, ok10, ok11, ok12⟩ ev (ackL tk)) := ⟨hdue⟩
          clear hlt3 htx hmok hdue hgo hcl2 hcc2 hz2 htm HOP HTT hev
          have hO1 : decide ((nO : Int) < 1) = false := decide_eq_false (by omega)
          have hO2 : decide ((16 : Int) < (nO : Int)) = false := decide_eq_false (by omega)
          have hO3 : decide (nO < 1) = false := decide_eq_false (by omega)
          have hO4 : decide (16 < nO) = false := decide_eq_false (by omega)
          have hO5 : 0 < nO := hnO1.1
          have HSN := Amk hdn
          go_upto_region 23 with (first
           | ((with_reducible refine gate_dst (N := 65) rfl ?_); refine wpList_load_mid rfl 57 (.tmp 64) rfl bg (i * 5) rfl [.int .i64 2, .string bytes, .slice (some ⟨bo, 0, none⟩) nO cO, .int .i64 ref, .string text] _ hrange.out Tryz.underlying57 rfl (by kernel_rfl) ?_)
           | ((with_reducible refine gate_store (t := 57) (p := 14) rfl ?_); refine wpList_store_blk 57 (.tmp 14) (.tmp 65) rfl rfl rfl (g := wr.heap.size) (e := 57) (.agg #[.int .i64 2, .string bytes, .slice (some ⟨bo, 0, none⟩) nO cO, .int .i64 ref, .string text]) [.int .i64 2, .string bytes, .slice (some ⟨bo, 0, none⟩) nO cO, .int .i64 ref, .string text] rfl rfl rfl (heap_alloc_new wr _) (by kernel_rfl) rfl (by simp [mqCells, Value.oneCell']) ?_; intro W3 hw; have HB3 := Amk (hw.below (bal (Below.refl wr.heap.size wr) _) (by simp) (Nat.le_refl _)); have HX3 := Amk hw.blk; have HP9 := Amk (HP8.out.below HB3.out); have HL9 := Amk (Kd.R_below HL8.out HB3.out); have ck := (bqc HX3.out 0).trans (show _ = some (Value.int .i64 2) from rfl); have ck2 := (bqc HX3.out 2).trans (show _ = some (Value.slice (some ⟨bo, 0, none⟩) nO cO) from rfl); have HR3 := Amk (range_below HRO.out HB3.out); clear hw))
          generalize wr.heap.size = yb at *
          clear HRO HP8 HL8 HB3 ck ck2 hO1 hO2 hO3 hO4 hrange
          go_upto_region 26 with (first
           | ((with_reducible refine gate_dst (N := 79) rfl ?_); refine wpList_load_row rfl 41 (.tmp 3) rfl w.heap.size rfl 41 #[.slice (some ad) nH cH, .slice AA nA cA, .slice AO0 nO0 cO0] (0, 0) _ HP9.out.cblk Tryz.underlying41 rfl (by kernel_rfl) ?_)
           | (go_at_call 29; refine Calls.mono (HAns.out _ HP9.out.bel) ?_; rintro e5 w5 ⟨rfl, hb⟩; have HPa := Amk (HP9.out.below hb); have HLa := Amk (Kd.R_below HL9.out hb); have HXa := Amk ((hb.block _ (blk_lt HX3.out)).trans HX3.out); have HRa := Amk (range_below HR3.out hb); have cd := (HPa.out.cell 2).trans (show _ = some (Value.bool dn) from by rw [← HSN.out]; rfl); clear hb))
          clear HP9 HL9 HX3 HR3 HAns cd
          go_upto_region 27 with (first
           | ((with_reducible refine gate_dst (N := 87) rfl ?_); refine wpList_load_row rfl 45 (.tmp 5) rfl sb rfl 45 (mqCells s (.slice AW nW cW) (.slice AC nC cC)) (0, 0) _ HPa.out.sblk Tryz.underlying45 rfl (by kernel_rfl) ?_)
           | ((with_reducible refine gate_dst (N := 89) rfl ?_); refine wpList_load_row rfl 57 (.tmp 14) rfl yb rfl 57 #[.int .i64 2, .string bytes, .slice (some ⟨bo, 0, none⟩) nO cO, .int .i64 ref, .string text] (0, 0) _ HXa.out Tryz.underlying57 rfl (by kernel_rfl) ?_)
           | (go_at_call 30; refine Calls.mono (HTold.out _ HPa.out) ?_; rintro e6 w6 ⟨v1, v2, v3, rfl, hr1, hr2, hr3, hb⟩; have HPb := Amk (HPa.out.below hb); have HLb := Amk (Kd.R_below HLa.out hb); have HXb := Amk ((hb.block _ (blk_lt HXa.out)).trans HXa.out); have HRb := Amk (range_below HRa.out hb); have HR1 := Amk (Kd.R_lower hr1 HPa.out.sz); have HR2 := Amk (Kd.R_lower hr2 HPa.out.sz); have HR3 := Amk (Kd.R_lower hr3 HPa.out.sz); clear hr1 hr2 hr3 hb; obtain ⟨A3, n3, c3, rfl, _⟩ := R_parts HR1.out; obtain ⟨A4, n4, c4, rfl, _⟩ := R_parts HR2.out; obtain ⟨AK, nK, cK, rfl, HNK⟩ := R_parts HR3.out)
           | ((with_reducible refine gate_store (t := 45) (p := 17) rfl ?_); refine wpList_store_blk 45 (.tmp 17) (.tmp 92) rfl rfl rfl (g := w6.heap.size) (e := 45) (.agg (mqCells tm (.slice A3 n3 c3) (.slice A4 n4 c4))) (mqCells tm (.slice A3 n3 c3) (.slice A4 n4 c4)).toList rfl rfl rfl (heap_alloc_new w6 _) (by kernel_rfl) rfl (by simp [mqCells, Value.oneCell']) ?_; intro W6 hw; have HBc := Amk (hw.below (bal (Below.refl w6.heap.size w6) _) (by simp) (Nat.le_refl _)); have HPc := Amk (HPb.out.below HBc.out); have HLc := Amk (Kd.R_below HLb.out HBc.out); have HXc := Amk ((HBc.out.block _ (blk_lt HXb.out)).trans HXb.out); have HRc := Amk (range_below HRb.out HBc.out); have HKc : Aside0 (Hd w W6 w6.heap.size tm tk (.slice A3 n3 c3) (.slice A4 n4 c4) (.slice AK nK cK)) := ⟨⟨hw.blk, Kd.R_below HR1.out HBc.out, Kd.R_below HR2.out HBc.out, Kd.R_below HR3.out HBc.out⟩⟩; have ck2 := (bqc HXc.out 2).trans (show _ = some (Value.slice (some ⟨bo, 0, none⟩) nO cO) from rfl); clear hw))
          generalize w6.heap.size = kb at *
          clear HPa HLa HXa HRa HPb HLb HXb HRb HR1 HR2 HR3 HBc HTold
          go_upto_region 29 with (first
           | ((with_reducible refine gate_dst (N := 97) rfl ?_); refine wpList_load_mid rfl 64 (.tmp 96) rfl bo 0 rfl [.int .i64 ok0, .int .i64 ok1, .int .i64 ok2, .int .i64 ok3, .string ok4, .string ok5, .bool ok6, .bool ok7, .bool ok8, .string ok9, .string ok10, .slice A8 0 c8, .bool ok11, .int .i64 ok12] _ HRc.out Tryz.underlying64 rfl (by kernel_rfl) ?_)
           | ((with_reducible refine gate_store (t := 64) (p := 19) rfl ?_); refine wpList_store_blk 64 (.tmp 19) (.tmp 97) rfl rfl rfl (g := W6.heap.size) (e := 64) (.agg #[.int .i64 ok0, .int .i64 ok1, .int .i64 ok2, .int .i64 ok3, .string ok4, .string ok5, .bool ok6, .bool ok7, .bool ok8, .string ok9, .string ok10, .slice A8 0 c8, .bool ok11, .int .i64 ok12]) [.int .i64 ok0, .int .i64 ok1, .int .i64 ok2, .int .i64 ok3, .string ok4, .string ok5, .bool ok6, .bool ok7, .bool ok8, .string ok9, .string ok10, .slice A8 0 c8, .bool ok11, .int .i64 ok12] rfl rfl rfl (heap_alloc_new W6 _) (by kernel_rfl) rfl (by simp [mqCells, Value.oneCell']) ?_; intro W7 hw; have HBd := Amk (hw.below (bal (Below.refl W6.heap.size W6) _) (by simp) (Nat.le_refl _)); have HPd := Amk (HPc.out.below HBd.out); have HLd := Amk (Kd.R_below HLc.out HBd.out); have HKd := Amk (HKc.out.below HBd.out); have HOd := Amk hw.blk; clear hw)
           | (go_at_call 28; refine Calls.mono (acks_calls tk AK nK cK _ (HNK.out ▸ (Kd.R_reads' HKd.out.acts).2.2) (by have := HNK.out; omega)) ?_; rintro e8 w8 ⟨rfl, hb⟩; have HPe := Amk (HPd.out.below hb); have HLe := Amk (Kd.R_below HLd.out hb); have HKe := Amk (HKd.out.below hb); have HOe := Amk ((hb.block _ (blk_lt HOd.out)).trans HOd.out); clear hb))
          generalize W6.heap.size = ob at *
          clear HPc HLc HKc HXc HRc HPd HLd HKd HOd HBd ck2
          obtain ⟨said, hsaid⟩ : ∃ said, ackL tk = said := ⟨_, rfl⟩
          rw [hsaid] at HDUE ⊢
          clear hsaid
          have o0 := (bqc HOe.out 0).trans (show _ = some (Value.int .i64 ok0) from rfl)
          have o3 := (bqc HOe.out 3).trans (show _ = some (Value.int .i64 ok3) from rfl)
          have o5 := (bqc HOe.out 5).trans (show _ = some (Value.string ok5) from rfl)
          have o12 := (bqc HOe.out 12).trans (show _ = some (Value.bool ok11) from rfl)
          have s3 := (HPe.out.cell 3).trans (show _ = some (Value.string s.client) from rfl)
          by_cases hd : ok0 = 5 ∧ ok11 = true ∧ ev = 0 ∧ dn = false
          case neg =>
           have hs := HDUE.out.none_ (by rw [HSN.out]; exact hd)
           subst hs
           go_cut [21] (fun s21 wx => s21 = .bool false ∧ Aside0 (wx = w8))
           case first =>
            by_cases k5 : ok0 = 5
            case neg =>
             have k51 : (ok0 == 5) = false := by simpa using k5
             have k52 : decide (ok0 = 5) = false := decide_eq_false k5
             go_wp2_with fail
             go_meet
             exact ⟨rfl, ⟨rfl⟩⟩
            case pos =>
             subst k5
             by_cases e0 : ev = 0
             case neg =>
              have e01 : (ev == 0) = false := by simpa using e0
              have e02 : decide (ev = 0) = false := decide_eq_false e0
              cases ok11
              ·
               go_wp2_with fail
               go_meet
               exact ⟨rfl, ⟨rfl⟩⟩
              ·
               go_wp2_with fail
               go_meet
               exact ⟨rfl, ⟨rfl⟩⟩
             case pos =>
              subst e0
              cases ok11
              ·
               go_wp2_with fail
               go_meet
               exact ⟨rfl, ⟨rfl⟩⟩
              ·
               cases dn
               ·
                exact absurd ⟨rfl, rfl, rfl, rfl⟩ hd
               ·
                go_wp2_with fail
                go_meet
                exact ⟨rfl, ⟨rfl⟩⟩
           case rest =>
            obtain ⟨rfl, hw8⟩ := hcut
            have hw8 := hw8.out.symm
            subst hw8
            go_upto_region 32 with fail
            go_quiet (fail)
            have HQ : Below w8.heap.size w8 (w8.drewN nq) := pw_below_drewN (Below.refl w8.heap.size w8) nq
            have HPf := Amk (HPe.out.below HQ)
            have HLf := Amk (Kd.R_below HLe.out HQ)
            have HKf := Amk (HKe.out.below HQ)
            clear HPe HLe HKe HQ
            generalize w8.drewN nq = w9 at *
            go_wp2_with (first
             | ((with_reducible refine gate_dst (N := 154) rfl ?_); refine wpList_load_row rfl 45 (.tmp 17) rfl kb rfl 45 (mqCells tm (.slice A3 n3 c3) (.slice A4 n4 c4)) (0, 0) _ HKf.out.blk Tryz.underlying45 rfl (by kernel_rfl) ?_)
             | ((with_reducible refine gate_store (t := 45) (p := 5) rfl ?_); refine wpList_store_blk 45 (.tmp 5) (.tmp 154) rfl rfl rfl (g := sb) (e := 45) (.agg (mqCells tm (.slice A3 n3 c3) (.slice A4 n4 c4))) (mqCells tm (.slice A3 n3 c3) (.slice A4 n4 c4)).toList rfl rfl rfl HPf.out.sblk (by kernel_rfl) rfl (by simp [mqCells, Value.oneCell']) ?_; intro W10 hw; have HPg := Amk (HPf.out.store (s' := tm) (vW' := .slice A3 n3 c3) (vC' := .slice A4 n4 c4) hw HKf.out.will HKf.out.codes); have HLg := Amk (R_wroteG HLf.out hw HPf.out.sblk (by decide)); clear hw))
            go_roundg gC
            case rel => exact ⟨i + 1, n + 1, tm, _, _, _, by go_num, by go_num, by omega, HPg, HLg, HTT2⟩
            case measure => omega
          case pos =>
           obtain ⟨rfl, rfl, rfl, rfl⟩ := hd
           obtain ⟨x, u, v, hs, himp⟩ := HDUE.out.some_ rfl rfl rfl HSN.out
           subst hs
           go_cut [21] (fun s21 wx => s21 = .bool true ∧ Aside0 (wx = w8))
           case first =>
            go_wp2_with fail
            go_meet
            exact ⟨rfl, ⟨rfl⟩⟩
           case rest =>
            obtain ⟨rfl, hw8⟩ := hcut
            have hw8 := hw8.out.symm
            subst hw8
            have hbu := u.toNat_lt
            have hbv := v.toNat_lt
            have g0 : ∀ hp, ((⟨⟨[x, 2, u, v]⟩⟩ : ByteArray)[0]'hp) = x := fun _ => rfl
            have g2 : ∀ hp, ((⟨⟨[x, 2, u, v]⟩⟩ : ByteArray)[2]'hp) = u := fun _ => rfl
            have g3 : ∀ hp, ((⟨⟨[x, 2, u, v]⟩⟩ : ByteArray)[3]'hp) = v := fun _ => rfl
            by_cases hx80 : x = 80
            case neg =>
             have h5 : x.toNat ≠ 80 := fun h => hx80 (UInt8.toNat.inj h)
             have h51 : ((x.toNat : Int) == 80) = false := by simp; omega
             have h52 : decide ((x.toNat : Int) = 80) = false := decide_eq_false (by omega)
             go_upto_region 32 with fail
             go_quiet (fail)
             have HQ : Below w8.heap.size w8 (w8.drewN nq) := pw_below_drewN (Below.refl w8.heap.size w8) nq
             have HPf := Amk (HPe.out.below HQ)
             have HLf := Amk (Kd.R_below HLe.out HQ)
             have HKf := Amk (HKe.out.below HQ)
             clear HPe HLe HKe HQ
             generalize w8.drewN nq = w9 at *
             go_wp2_with (first
              | ((with_reducible refine gate_dst (N := 154) rfl ?_); refine wpList_load_row rfl 45 (.tmp 17) rfl kb rfl 45 (mqCells tm (.slice A3 n3 c3) (.slice A4 n4 c4)) (0, 0) _ HKf.out.blk Tryz.underlying45 rfl (by kernel_rfl) ?_)
              | ((with_reducible refine gate_store (t := 45) (p := 5) rfl ?_); refine wpList_store_blk 45 (.tmp 5) (.tmp 154) rfl rfl rfl (g := sb) (e := 45) (.agg (mqCells tm (.slice A3 n3 c3) (.slice A4 n4 c4))) (mqCells tm (.slice A3 n3 c3) (.slice A4 n4 c4)).toList rfl rfl rfl HPf.out.sblk (by kernel_rfl) rfl (by simp [mqCells, Value.oneCell']) ?_; intro W10 hw; have HPg := Amk (HPf.out.store (s' := tm) (vW' := .slice A3 n3 c3) (vC' := .slice A4 n4 c4) hw HKf.out.will HKf.out.codes); have HLg := Amk (R_wroteG HLf.out hw HPf.out.sblk (by decide)); clear hw))
             go_roundg gC
             case rel => exact ⟨i + 1, n + 1, tm, _, _, _, by go_num, by go_num, by omega, HPg, HLg, HTT2⟩
             case measure => omega
            case pos =>
             subst hx80
             obtain ⟨ht, hn⟩ := himp rfl
             simp only at ht hn
             subst ht hn
             have hw1 : IntKind.i64.wrap ((u.toNat : Int) * 256) = (u.toNat : Int) * 256 := by rw [IntKind.wrap_i64]; omega
             have hw2 : IntKind.i64.wrap ((u.toNat : Int) * 256 + (v.toNat : Int)) = (u.toNat : Int) * 256 + (v.toNat : Int) := by rw [IntKind.wrap_i64]; omega
             go_upto_region 32 with fail
             go_quiet (fail)
             have HQ : Below w8.heap.size w8 (w8.drewN nq) := pw_below_drewN (Below.refl w8.heap.size w8) nq
             have HPf := Amk (HPe.out.below HQ)
             have HLf := Amk (Kd.R_below HLe.out HQ)
             have HKf := Amk (HKe.out.below HQ)
             clear HPe HLe HKe HQ
             generalize w8.drewN nq = w9 at *
             go_wp2_with (first
              | ((with_reducible refine gate_dst (N := 154) rfl ?_); refine wpList_load_row rfl 45 (.tmp 17) rfl kb rfl 45 (mqCells tm (.slice A3 n3 c3) (.slice A4 n4 c4)) (0, 0) _ HKf.out.blk Tryz.underlying45 rfl (by kernel_rfl) ?_)
              | ((with_reducible refine gate_store (t := 45) (p := 5) rfl ?_); refine wpList_store_blk 45 (.tmp 5) (.tmp 154) rfl rfl rfl (g := sb) (e := 45) (.agg (mqCells tm (.slice A3 n3 c3) (.slice A4 n4 c4))) (mqCells tm (.slice A3 n3 c3) (.slice A4 n4 c4)).toList rfl rfl rfl HPf.out.sblk (by kernel_rfl) rfl (by simp [mqCells, Value.oneCell']) ?_; intro W10 hw; have HPg := Amk (HPf.out.store (s' := tm) (vW' := .slice A3 n3 c3) (vC' := .slice A4 n4 c4) hw HKf.out.will HKf.out.codes); have HLg := Amk (R_wroteG HLf.out hw HPf.out.sblk (by decide)); clear hw))
             go_roundg gC
             case rel => exact ⟨i + 1, n + 1, tm, _, _, _, by go_num, by go_num, by omega, HPg, HLg, HTT2⟩
             case measure => omega
end Go.Proofs.YtednegmjjjdinaaGreatDoor.Ext
