/- Texts of this claim's author, joined and pruned by a program of his (pack.py): Lm. -/
import Derived.Test.YtednegmjjjdinaaGreatDoorP0
import Derived.Test.YtednegmjjjdinaaGreatDoorP1
import Derived.Test.YtednegmjjjdinaaGreatDoorP2
import Derived.Test.YtednegmjjjdinaaGreatDoorP3
import Derived.Test.YtednegmjjjdinaaGreatDoorP4
import Derived.Test.YtednegmjjjdinaaGreatDoorP5
import Derived.Test.YtednegmjjjdinaaGreatDoorP7
import Derived.Test.YtednegmjjjdinaaGreatDoorP10
import Derived.Test.YtednegmjjjdinaaGreatDoorP11
import Derived.Test.YtednegmjjjdinaaGreatDoorP12
import Derived.Test.YtednegmjjjdinaaGreatDoorP13
import Derived.Test.YtednegmjjjdinaaGreatDoorP14
import Derived.Test.YtednegmjjjdinaaGreatDoorP15
import Derived.Test.YtednegmjjjdinaaGreatDoorP16
import Derived.Test.YtednegmjjjdinaaGreatDoorP17
import Derived.Test.YtednegmjjjdinaaGreatDoorP18
import Derived.Test.YtednegmjjjdinaaGreatDoorP21
set_option maxRecDepth 100000
set_option maxHeartbeats 4000000
open Go.Proofs.YtednegmjjjdinaaGreatDoorW.PrintWords renaming below_then → bth
open Go.Proofs.YtednegmjjjdinaaGreatDoorW.PrintWords.Aside0 renaming mk → Amk
namespace Go.Proofs.YtednegmjjjdinaaGreatDoor.Ext
open Go.RowKit Go.Proofs.YtednegmjjjdinaaGreatDoorW.PrintWords Go.Proofs.YtednegmjjjdinaaGreatDoorW.PrintLast Go.Proofs.YtednegmjjjdinaaGreatDoorW.PrintMore
set_option linter.unusedVariables false
set_option linter.unusedSimpArgs false
theorem toldM_few (s : Mq) (ref : Int) (text : ByteArray) (id : Nat) (e : Int) : ∀ x ∈ (toldM s ref text id e).2, x.ops.length ≤ 16 := by
 unfold toldM
 repeat' split
 all_goals (intro x hx; simp only [List.mem_singleton, List.not_mem_nil] at hx)
 all_goals (subst hx; simp [sayAct, endAct])
theorem tellM_few (ans : Nat → Int) : ∀ (l : List BAct) (s : Mq) (n : Nat), ∀ x ∈ (tellM ans s n l).2.2, x.ops.length ≤ 16 := by
 intro l
 induction l with
 | nil => intro s n x hx; simp [tellM] at hx
 | cons a l ih =>
  intro s n x hx
  unfold tellM at hx
  split at hx
  ·
   simp only at hx
   rcases List.mem_append.1 hx with hx | hx
   ·
    exact toldM_few _ _ _ _ _ x hx
   ·
    exact ih _ _ x hx
  ·
   exact ih s n x hx
theorem Drain.few {ans : Nat → Int} {conn : Int} {k : Nat} {s : Mq} {n : Nat} {s2 : Mq} {n2 : Nat} {r : List BAct} (h : Drain ans conn k s n s2 n2 r) : Good s → ∀ x ∈ r, x.ops.length ≤ 16 := by
 induction h with
 | stop _ => intro _ x hx; cases hx
 | step h _ ih =>
  intro hg x hx
  rename_i k s n a l s2 n2 r _
  obtain ⟨g1, g2, g3, _⟩ := nextM_ok hg h
  rcases List.mem_append.1 hx with hx | hx
  ·
   exact (g2 x hx).few
  ·
   rcases List.mem_append.1 hx with hx | hx
   ·
    exact tellM_few _ _ _ _ x hx
   ·
    exact ih (tellM_ok ans l a n g2 g1.1 g3).1 x hx
theorem Heard.few {ans : Nat → Int} {conn : Int} {cs : List (List UInt8)} {s : Mq} {n : Nat} {s2 : Mq} {n2 : Nat} {r : List BAct} (h : Heard ans conn cs s n s2 n2 r) : Good s → ∀ x ∈ r, x.ops.length ≤ 16 := by
 induction h with
 | nil => intro _ x hx; cases hx
 | cons hd _ ih =>
  intro hg x hx
  rcases List.mem_append.1 hx with hx | hx
  ·
   exact hd.few (plus_good _ hg) x hx
  ·
   exact ih (hd.ok (plus_good _ hg)).1 x hx
theorem next_new (conn : Int) : nextM newMq conn = (newMq, [], false) := by
 unfold nextM
 rw [if_neg (by simp [newMq])]
 rfl
theorem lists_le (cs : List ByteArray) (j : Nat) : (lists (cs.take j)).flatten.length ≤ (lists cs).flatten.length := by
 have h : (lists cs).flatten = (lists (cs.take j)).flatten ++ (lists (cs.drop j)).flatten := by
  rw [← List.flatten_append]
  unfold lists
  rw [← List.map_append, List.take_append_drop]
 rw [h, List.length_append]
 omega
theorem singles_snoc {xs : List ByteArray} {Z : ByteArray} {i : Nat} (h : (lists xs).flatten = Z.data.toList.take i) (hi : i < Z.data.toList.length) : (lists (xs ++ [Z.extract i (i + 1)])).flatten = Z.data.toList.take (i + 1) := by
 unfold lists at h ⊢
 rw [List.map_append, List.flatten_append, h, List.take_succ_eq_append_getElem hi]
 congr 1
 simp only [List.map_cons, List.map_nil, List.flatten_cons, List.flatten_nil, List.append_nil, ByteArray.data_extract, Array.toList_extract]
 rw [List.extract_eq_take_drop, Nat.add_sub_cancel_left, List.drop_eq_getElem_cons hi]
 rfl
theorem chunks_calls (conn : Int) (hc0 : -9223372036854775808 ≤ conn) (hc1 : conn ≤ 9223372036854775807) (AH : Option Addr) (nH cH : Nat) (AA : Option Addr) (nA cA : Nat) (AO : Option Addr) (nO cO : Nat) (chunks : List ByteArray) (answers : List Int) (outs : List K.S66) (w : World) (hG : WI w)
  (hC : Kd.string.C w AH nH chunks) (hA : (Kd.int .i64).C w AA nA answers) (hO : K.k66.C w AO nO outs) (hnH : nH ≤ 140737488355328) (hnA : nA ≤ 140737488355328) (hnO : nO ≤ 140737488355328) (hcs : ∀ c ∈ chunks, c.size ≤ 140737488355328)
  (hos : ∀ o ∈ outs, o.f6.f2.length ≤ 140737488355328 ∧ ∀ x ∈ o.f6.f2, x.f0.size ≤ 140737488355328) :
  Calls Tryz.prog 5 #[.int .i64 conn, .agg #[.slice AH nH cH, .slice AA nA cA, .slice AO nO cO]] w fun e w' => e = .returned (.bool true) ∧ Below w.heap.size w w' := by
 have HG := Amk hG
 have HC := Amk hC
 have HA := Amk hA
 have HO := Amk hO
 have HNB := Amk (And.intro hnH (And.intro hnA hnO))
 have HCS := Amk hcs
 have HOS := Amk hos
 have HNH : Aside0 (chunks.length = nH) := ⟨hC.1⟩
 have HB0 := Amk (below_alloc (Below.refl w.heap.size w) (.cells #[.slice AH nH cH, .slice AA nA cA, .slice AO nO cO] 41))
 have HBX := Amk (heap_alloc_new w (.cells #[.slice AH nH cH, .slice AA nA cA, .slice AO nO cO] 41))
 clear hG hC hA hO hnH hnA hnO hcs hos
 go_enter Tryz.func5, Tryz.ntmps5
 go_upto_region 3 with (go_at_call 21; refine Calls.mono (wakes_calls _ (HG.out.below HB0.out)) ?_; rintro e1 w1 ⟨rfl, hb⟩; have HB1 := Amk (bth HB0.out HB0.out.size hb); have HX1 := Amk ((hb.block _ (blk_lt HBX.out)).trans HBX.out); clear hb)
 go_cut [27] (fun s27 wx => ∃ b27, s27 = .bool b27 ∧ Aside0 (b27 = false → Light chunks nA outs ∧ 0 ≤ conn ∧ conn < 8) ∧ Aside0 (Below w.heap.size w wx) ∧ Aside0 (wx.heap[w.heap.size]? = some (.cells #[.slice AH nH cH, .slice AA nA cA, .slice AO nO cO] 41 (0, 0))))
 case first =>
  have hv : ∃ b1 b2 : Bool, decide (conn < 0) = b1 ∧ decide (8 ≤ conn) = b2 ∧ Aside0 (b1 = false → b2 = false → 0 ≤ conn ∧ conn < 8) := by
   refine ⟨_, _, rfl, rfl, ⟨fun h1 h2 => ?_⟩⟩
   have h1 := of_decide_eq_false h1
   have h2 := of_decide_eq_false h2
   omega
  obtain ⟨b1, b2, e1, e2, HV⟩ := hv
  go_wp2_with (first
   | ((with_reducible refine gate_dst (N := 18) rfl ?_); refine wpList_load_row rfl 41 (.tmp 3) rfl w.heap.size rfl 41 #[.slice AH nH cH, .slice AA nA cA, .slice AO nO cO] (0, 0) _ HX1.out Tryz.underlying41 rfl (by kernel_rfl) ?_)
   | (go_at_call 22; refine Calls.mono (heavy_calls AH nH cH AA nA cA AO nO cO chunks outs _ (Kd.C_below HC.out HB1.out) (Kd.C_below HO.out HB1.out) HNB.out.1 HNB.out.2.1 HNB.out.2.2 HCS.out HOS.out) ?_; rintro e2 w2 ⟨b0, rfl, hl, hb⟩; have HL := Amk hl; have HB2 := Amk (bth HB1.out HB1.out.size hb); have HX2 := Amk ((hb.block _ (blk_lt HX1.out)).trans HX1.out); clear hb hl; cases b0 <;> cases b1 <;> cases b2))
  all_goals go_meet
  all_goals first
   | exact ⟨_, rfl, ⟨fun h => Bool.noConfusion h⟩, HB2, HX2⟩
   | exact ⟨_, rfl, ⟨fun _ => ⟨HL.out (by trivial), HV.out (by trivial) (by trivial)⟩⟩, HB2, HX2⟩
 case rest =>
  obtain ⟨b27, rfl, HV, HB2, HX2⟩ := hcut
  clear HB1 HX1 HB0 HBX
  cases b27 with
  | true =>
   go_wp2_with fail
   go_ret
   exact ⟨rfl, HB2.out⟩
  | false =>
   obtain ⟨HLt, hc2, hc3⟩ := HV.out rfl
   have hHb : nH ≤ 16384 := by have := HLt.bytes; have := HNH.out; omega
   have hAb : nA ≤ 16384 := by have := HLt.bytes; omega
   have hZb : (lists chunks).flatten.length ≤ 16384 := by have := HLt.bytes; unfold bytesIn at this; omega
   obtain ⟨sF, nF, lF, hH⟩ := Heard.run (ansF answers) conn (lists chunks) newMq 0 good_new2
   obtain ⟨hgF, hlF, hrF⟩ := hH.ok good_new2
   have hlF2 : lF.length ≤ 557124 := by
    have hl : left newMq = 2 := by simp [left, newMq, ByteArray.size]
    rw [hl] at hlF; omega
   have HFW := Amk (hH.few good_new2)
   have HGF := Amk hgF.1
   have HLZ := Amk hlF2
   have HZZ := Amk hZb
   have HHC : Aside0 (∀ W (AX : Option Addr) (nX cX : Nat) (xs : List ByteArray), Below w.heap.size w W → Kd.string.C W AX nX xs → nX ≤ 16384 → (lists xs).flatten = (lists chunks).flatten → Calls Tryz.prog 23 #[.int .i64 conn, .slice AX nX cX, .agg #[.slice AH nH cH, .slice AA nA cA, .slice AO nO cO]] W (TQ W (sF, lF))) := ⟨fun W AX nX cX xs hB hX hn he => by
    obtain ⟨s2, n2, l2, h2⟩ := Heard.run (ansF answers) conn (lists xs) newMq 0 good_new2
    obtain ⟨e1, e2⟩ := Heard.cut (next_new conn) hH h2 he.symm
    subst e1 e2
    exact heard_calls conn hc2 (by omega) xs answers AX nX cX (.slice AH nH cH) (.slice AO nO cO) AA nA cA W (HG.out.below hB) hX (Kd.C_below HA.out hB) hn hAb sF n2 lF h2 (by rw [he]; exact hZb)⟩
   have HHB := Amk hHb
   have q0 := (blk_cell HX2.out 0).trans (show _ = some (Value.slice AH nH cH) from rfl)
   clear hH hgF hlF hrF hlF2 HLt hAb hZb hc2 hc3 HV HCS HOS hc0 hc1 HA HO
   go_wp2_with fail
   go_loopg [31, 5] nH (fun kq v31 v5 wx => ∃ (j : Nat) (Z : ByteArray), v31 = .int .i64 (j : Nat) ∧ v5 = .string Z ∧ j + kq = nH ∧ Aside0 (Z.data.toList = (lists (chunks.take j)).flatten) ∧ Aside0 (Below w.heap.size w wx) ∧ Aside0 (wx.heap[w.heap.size]? = some (.cells #[.slice AH nH cH, .slice AA nA cA, .slice AO nO cO] 41 (0, 0))))
   case atStart => exact ⟨0, _, rfl, rfl, by omega, ⟨rfl⟩, HB2, HX2⟩
   case round =>
    clear HB2 HX2 q0
    obtain ⟨j, Z, rfl, rfl, hj, HZ, HB2, HX2⟩ := hrel
    cases gk with
    | succ g =>
     have hlt : decide ((j : Int) < (nH : Int)) = true := decide_eq_true (by omega)
     have hlt2 : decide (j < nH) = true := decide_eq_true (by omega)
     have hjb : j < 1048576 := by omega
     have hjl : j < chunks.length := by have := HNH.out; omega
     obtain ⟨ad, rfl, hcell⟩ := Kd.at_string (Kd.C_below HC.out HB2.out) (j : Int) (by omega) (by omega)
     simp only [Int.toNat_natCast] at hcell
     obtain ⟨c, hc⟩ : ∃ c, rdOf ByteArray.empty chunks (j : Int) = c := ⟨_, rfl⟩
     rw [hc] at hcell
     have htk : chunks.take (j + 1) = chunks.take j ++ [c] := by rw [List.take_succ_eq_append_getElem hjl, ← hc]; simp [rdOf, hjl]
     have HZ2 : Aside0 ((Z ++ c).data.toList = (lists (chunks.take (j + 1))).flatten) := ⟨by rw [htk]; simp [lists, HZ.out]⟩
     have hIS : Z.size + c.size ≤ 9223372036854775807 := by
      have h1 := lists_le chunks (j + 1)
      rw [← HZ2.out] at h1
      have h2 : (Z ++ c).data.toList.length = Z.size + c.size := by rw [Array.length_toList]; exact ByteArray.size_append
      have := HZZ.out
      omega
     clear htk hc hjl
     go_wp2_with fail
     go_roundg g
     case rel => exact ⟨j + 1, Z ++ c, by go_num, rfl, by omega, HZ2, HB2, HX2⟩
     case measure => omega
    | zero =>
     have hge : decide ((j : Int) < (nH : Int)) = false := decide_eq_false (by omega)
     have hge2 : decide (j < nH) = false := decide_eq_false (by omega)
     have HZA : Aside0 (Z.data.toList = (lists chunks).flatten) := ⟨by have := HZ.out; rwa [List.take_of_length_le (by have := HNH.out; omega)] at this⟩
     have HZS : Aside0 (Z.data.toList.length = Z.size) := ⟨by rw [Array.length_toList]; rfl⟩
     have hZS : Z.size ≤ 16384 := by have := HZZ.out; rw [← HZA.out, HZS.out] at this; exact this
     clear HZ hj
     by_cases hbig : Z.size ≤ 3000
     case neg =>
      have hg1 : decide ((3000 : Int) < (Z.size : Int)) = true := decide_eq_true (by omega)
      have hg2 : decide (3000 < Z.size) = true := decide_eq_true (by omega)
      go_wp2_with fail
      go_ret
      exact ⟨rfl, HB2.out⟩
     case pos =>
      have hg1 : decide ((3000 : Int) < (Z.size : Int)) = false := decide_eq_false (by omega)
      have hg2 : decide (3000 < Z.size) = false := decide_eq_false (by omega)
      obtain ⟨nZ, hnZ⟩ : ∃ nZ, Z.size = nZ := ⟨_, rfl⟩
      go_wp2_with fail
      clear hge hge2 hg1 hg2
      rw [hnZ] at hZS hbig HZS
      go_loopg [9, 8] nZ (fun kq v9 v8 wx => ∃ (i : Nat) (A : Option Addr) (n c : Nat) (xs : List ByteArray), v9 = .int .i64 (i : Nat) ∧ v8 = .slice A n c ∧ i + kq = nZ ∧ Aside0 ((lists xs).flatten = Z.data.toList.take i ∧ xs.length = i) ∧ Aside0 (Below w.heap.size w wx) ∧ Aside0 (wx.heap[w.heap.size]? = some (.cells #[.slice AH nH cH, .slice AA nA cA, .slice AO nO cO] 41 (0, 0))) ∧ Aside0 (Kd.string.R 9 wx w.heap.size (fun _ => True) (.slice A n c) xs))
      case atStart => exact ⟨0, _, _, _, [], rfl, rfl, by omega, ⟨rfl, rfl⟩, HB2, HX2, ⟨Kd.R_nil _ _ _ _ _⟩⟩
      case round =>
       clear HB2 HX2
       obtain ⟨i, A, n, c, xs, rfl, rfl, hi, HXS, HB2, HX2, HRS⟩ := hrel
       cases gk with
       | succ g =>
        have hlt : decide ((i : Int) < (Z.size : Int)) = true := decide_eq_true (by omega)
        have hlt2 : decide (i < Z.size) = true := decide_eq_true (by omega)
        have hib : i < 1048576 := by omega
        have hi1 : i + 1 ≤ Z.size := by omega
        have HXS2 : Aside0 ((lists (xs ++ [Z.extract i (i + 1)])).flatten = Z.data.toList.take (i + 1) ∧ (xs ++ [Z.extract i (i + 1)]).length = i + 1) := ⟨singles_snoc HXS.out.1 (by rw [HZS.out]; omega), by rw [List.length_append, HXS.out.2]; rfl⟩
        go_wp2_with ((with_reducible refine gate_builtin (b := .append) (xs := #[.tmp 48, .tmp 54]) rfl ?_); at_builtin; refine Kd.R_append Kd.string (w0 := w) w.heap.size rfl (.tmp 48) (.tmp 54) 37 9 _ 16 rfl Tryz.underlying37 K.info9 rfl (by decide) (by decide) (.slice A n c) xs (Z.extract i (i + 1)) [.string (Z.extract i (i + 1))] (fun _ => True) (fun k => True ∧ some k ≠ (Value.slice A n c).ownBlock) rfl rfl rfl (fun _ hk => hk) (fun _ _ => trivial) HRS.out HB2.out HB2.out.size (by have := HXS.out.2; omega) ?_; intro v2 w2 hR hB hG hat; have HR2 := Amk hR; have HB3 := Amk hB; have HX3 := Amk (blk_grown HX2.out hG (Kd.R_ne HRS.out HX2.out (by decide))); clear hR hB hG hat; obtain ⟨A2, n2, c2, rfl, _⟩ := R_parts HR2.out)
        go_roundg g
        case rel => exact ⟨i + 1, A2, n2, c2, _, by go_num, rfl, by omega, HXS2, HB3, HX3, HR2⟩
        case measure => omega
       | zero =>
        have hge : decide ((i : Int) < (Z.size : Int)) = false := decide_eq_false (by omega)
        have hge2 : decide (i < Z.size) = false := decide_eq_false (by omega)
        have HXA : Aside0 ((lists xs).flatten = (lists chunks).flatten ∧ xs.length = nZ) := ⟨by rw [HXS.out.1, List.take_of_length_le (by rw [HZS.out]; omega), HZA.out], by have := HXS.out.2; omega⟩
        have HZ1 : Aside0 ((lists [Z]).flatten = (lists chunks).flatten) := ⟨by rw [← HZA.out]; simp [lists]⟩
        clear HXS
        have q0 := (blk_cell HX2.out 0).trans (show _ = some (Value.slice AH nH cH) from rfl)
        have HBY := HB2
        have HXY := HX2
        have HRY := HRS
        clear HB2 HX2 HRS
        go_upto_region 19 with (first
         | ((with_reducible refine gate_dst (N := 60) rfl ?_); refine wpList_load_row rfl 41 (.tmp 3) rfl w.heap.size rfl 41 #[.slice AH nH cH, .slice AA nA cA, .slice AO nO cO] (0, 0) _ HXY.out Tryz.underlying41 rfl (by kernel_rfl) ?_)
         | (go_at_call 23; refine Calls.mono (HHC.out _ AH nH cH chunks HBY.out (Kd.C_below HC.out HBY.out) HHB.out rfl) ?_; rintro e3 w3 ⟨v1, v2, v3, rfl, hr1, hr2, hr3, hb⟩; have HB3 := Amk (bth HBY.out HBY.out.size hb); have HX3 := Amk ((hb.block _ (blk_lt HXY.out)).trans HXY.out); have HR1 := Amk (Kd.R_lower hr1 HBY.out.size); have HR2 := Amk (Kd.R_lower hr2 HBY.out.size); have HR3 := Amk (Kd.R_lower hr3 HBY.out.size); have HRY := Amk (Kd.R_below HRY.out hb); clear hr1 hr2 hr3 hb; obtain ⟨AW1, nW1, cW1, rfl, _⟩ := R_parts HR1.out; obtain ⟨AC1, nC1, cC1, rfl, _⟩ := R_parts HR2.out; obtain ⟨AL1, nL1, cL1, rfl, HNL1⟩ := R_parts HR3.out)
         | ((with_reducible refine gate_store (t := 45) (p := 10) rfl ?_); refine wpList_store_blk 45 (.tmp 10) (.tmp 62) rfl rfl rfl (g := w3.heap.size) (e := 45) (.agg (mqCells sF (.slice AW1 nW1 cW1) (.slice AC1 nC1 cC1))) (mqCells sF (.slice AW1 nW1 cW1) (.slice AC1 nC1 cC1)).toList rfl rfl rfl (heap_alloc_new w3 _) (by kernel_rfl) rfl (by simp [mqCells, Value.oneCell']) ?_; intro W3 hw; have HB4 := Amk (hw.below (below_alloc (Below.refl w3.heap.size w3) _) (by simp) (Nat.le_refl _)); have HD1 : Aside0 (Hd w W3 w3.heap.size sF lF (.slice AW1 nW1 cW1) (.slice AC1 nC1 cC1) (.slice AL1 nL1 cL1)) := ⟨⟨hw.blk, Kd.R_below HR1.out HB4.out, Kd.R_below HR2.out HB4.out, Kd.R_below HR3.out HB4.out⟩⟩; have HXY := Amk ((HB4.out.block _ (blk_lt HX3.out)).trans HX3.out); have HBY := Amk (bth HB3.out HB3.out.size HB4.out); have HRY := Amk (Kd.R_below HRY.out HB4.out); have hbY := HB4.out; clear hw))
        clear HR1 HR2 HR3 HB3 HX3 HB4 q0 hbY
        generalize w3.heap.size = b10 at *
        have HBZ := Amk (below_alloc (Below.refl W3.heap.size W3) (.cells #[.string Z] 9))
        have HRO : Aside0 (Kd.string.R 9 (W3.alloc (.cells #[.string Z] 9)) w.heap.size (fun _ => True) (.slice (some ⟨W3.heap.size, 0, none⟩) 1 1) [Z]) := ⟨⟨fun _ _ => trivial, OwnRow.lit W3 w.heap.size (ps := [Z]) (Reps.snoc (ps := []) (cs := []) (Reps.none _ _) (show Kd.string.M _ _ _ Z [.string Z] from rfl) rfl) HBY.out.size (by simp)⟩⟩
        have HBY := Amk (bth HBY.out HBY.out.size HBZ.out)
        have HXY := Amk ((HBZ.out.block _ (blk_lt HXY.out)).trans HXY.out)
        have HRY := Amk (Kd.R_below HRY.out HBZ.out)
        have HD1 := Amk (HD1.out.below HBZ.out)
        go_upto_region 20 with (first
         | ((with_reducible refine gate_dst (N := 68) rfl ?_); refine wpList_load_row rfl 41 (.tmp 3) rfl w.heap.size rfl 41 #[.slice AH nH cH, .slice AA nA cA, .slice AO nO cO] (0, 0) _ HXY.out Tryz.underlying41 rfl (by kernel_rfl) ?_)
         | (go_at_call 23; refine Calls.mono (HHC.out _ (some ⟨W3.heap.size, 0, none⟩) 1 1 [Z] HBY.out (Kd.R_reads' HRO.out).2.2 (by decide) HZ1.out) ?_; rintro e3 w3 ⟨v1, v2, v3, rfl, hr1, hr2, hr3, hb⟩; have HB3 := Amk (bth HBY.out HBY.out.size hb); have HX3 := Amk ((hb.block _ (blk_lt HXY.out)).trans HXY.out); have HR1 := Amk (Kd.R_lower hr1 HBY.out.size); have HR2 := Amk (Kd.R_lower hr2 HBY.out.size); have HR3 := Amk (Kd.R_lower hr3 HBY.out.size); have HRY := Amk (Kd.R_below HRY.out hb); have HD1 := Amk (HD1.out.below hb); clear hr1 hr2 hr3 hb; obtain ⟨AW2, nW2, cW2, rfl, _⟩ := R_parts HR1.out; obtain ⟨AC2, nC2, cC2, rfl, _⟩ := R_parts HR2.out; obtain ⟨AL2, nL2, cL2, rfl, HNL2⟩ := R_parts HR3.out)
         | ((with_reducible refine gate_store (t := 45) (p := 12) rfl ?_); refine wpList_store_blk 45 (.tmp 12) (.tmp 70) rfl rfl rfl (g := w3.heap.size) (e := 45) (.agg (mqCells sF (.slice AW2 nW2 cW2) (.slice AC2 nC2 cC2))) (mqCells sF (.slice AW2 nW2 cW2) (.slice AC2 nC2 cC2)).toList rfl rfl rfl (heap_alloc_new w3 _) (by kernel_rfl) rfl (by simp [mqCells, Value.oneCell']) ?_; intro W3 hw; have HB4 := Amk (hw.below (below_alloc (Below.refl w3.heap.size w3) _) (by simp) (Nat.le_refl _)); have HD2 : Aside0 (Hd w W3 w3.heap.size sF lF (.slice AW2 nW2 cW2) (.slice AC2 nC2 cC2) (.slice AL2 nL2 cL2)) := ⟨⟨hw.blk, Kd.R_below HR1.out HB4.out, Kd.R_below HR2.out HB4.out, Kd.R_below HR3.out HB4.out⟩⟩; have HXY := Amk ((HB4.out.block _ (blk_lt HX3.out)).trans HX3.out); have HBY := Amk (bth HB3.out HB3.out.size HB4.out); have HRY := Amk (Kd.R_below HRY.out HB4.out); have HD1 := Amk (HD1.out.below HB4.out); clear hw))
        clear HR1 HR2 HR3 HB3 HX3 HB4 HRO HBZ
        generalize w3.heap.size = b12 at *
        have hC20 : Kd.string.C W3 A n xs := by
         have h := Kd.R_reads' HRY.out
         rw [← h.1] at h
         exact h.2.2
        have HC20 := Amk hC20
        have HN20 : Aside0 (n ≤ 16384) := ⟨by have := (Kd.R_reads' HRY.out).1; have := HXA.out.2; omega⟩
        clear hC20 HRY
        go_upto_region 21 with (first
         | ((with_reducible refine gate_dst (N := 75) rfl ?_); refine wpList_load_row rfl 41 (.tmp 3) rfl w.heap.size rfl 41 #[.slice AH nH cH, .slice AA nA cA, .slice AO nO cO] (0, 0) _ HXY.out Tryz.underlying41 rfl (by kernel_rfl) ?_)
         | (go_at_call 23; refine Calls.mono (HHC.out _ A n c xs HBY.out HC20.out HN20.out HXA.out.1) ?_; rintro e3 w3 ⟨v1, v2, v3, rfl, hr1, hr2, hr3, hb⟩; have HB3 := Amk (bth HBY.out HBY.out.size hb); have HX3 := Amk ((hb.block _ (blk_lt HXY.out)).trans HXY.out); have HR1 := Amk (Kd.R_lower hr1 HBY.out.size); have HR2 := Amk (Kd.R_lower hr2 HBY.out.size); have HR3 := Amk (Kd.R_lower hr3 HBY.out.size); have HD1 := Amk (HD1.out.below hb); have HD2 := Amk (HD2.out.below hb); clear hr1 hr2 hr3 hb; obtain ⟨AW3, nW3, cW3, rfl, _⟩ := R_parts HR1.out; obtain ⟨AC3, nC3, cC3, rfl, _⟩ := R_parts HR2.out; obtain ⟨AL3, nL3, cL3, rfl, HNL3⟩ := R_parts HR3.out)
         | ((with_reducible refine gate_store (t := 45) (p := 14) rfl ?_); refine wpList_store_blk 45 (.tmp 14) (.tmp 77) rfl rfl rfl (g := w3.heap.size) (e := 45) (.agg (mqCells sF (.slice AW3 nW3 cW3) (.slice AC3 nC3 cC3))) (mqCells sF (.slice AW3 nW3 cW3) (.slice AC3 nC3 cC3)).toList rfl rfl rfl (heap_alloc_new w3 _) (by kernel_rfl) rfl (by simp [mqCells, Value.oneCell']) ?_; intro W3 hw; have HB4 := Amk (hw.below (below_alloc (Below.refl w3.heap.size w3) _) (by simp) (Nat.le_refl _)); have HD3 : Aside0 (Hd w W3 w3.heap.size sF lF (.slice AW3 nW3 cW3) (.slice AC3 nC3 cC3) (.slice AL3 nL3 cL3)) := ⟨⟨hw.blk, Kd.R_below HR1.out HB4.out, Kd.R_below HR2.out HB4.out, Kd.R_below HR3.out HB4.out⟩⟩; have HXY := Amk ((HB4.out.block _ (blk_lt HX3.out)).trans HX3.out); have HBY := Amk (bth HB3.out HB3.out.size HB4.out); have HD1 := Amk (HD1.out.below HB4.out); have HD2 := Amk (HD2.out.below HB4.out); clear hw))
        clear HR1 HR2 HR3 HB3 HX3 HB4 HC20 HN20 HXY HHC
        generalize w3.heap.size = b14 at *
        have HS12 : Aside0 (∀ W, Hd w W b10 sF lF (.slice AW1 nW1 cW1) (.slice AC1 nC1 cC1) (.slice AL1 nL1 cL1) → Hd w W b12 sF lF (.slice AW2 nW2 cW2) (.slice AC2 nC2 cC2) (.slice AL2 nL2 cL2) → Calls Tryz.prog 24 #[.agg (mqCells sF (.slice AW1 nW1 cW1) (.slice AC1 nC1 cC1)), .agg (mqCells sF (.slice AW2 nW2 cW2) (.slice AC2 nC2 cC2))] W fun e w' => e = .returned (.bool true) ∧ Below W.heap.size W w') := ⟨fun W h1 h2 => h1.same h2 HGF.out⟩
        have HS13 : Aside0 (∀ W, Hd w W b10 sF lF (.slice AW1 nW1 cW1) (.slice AC1 nC1 cC1) (.slice AL1 nL1 cL1) → Hd w W b14 sF lF (.slice AW3 nW3 cW3) (.slice AC3 nC3 cC3) (.slice AL3 nL3 cL3) → Calls Tryz.prog 24 #[.agg (mqCells sF (.slice AW1 nW1 cW1) (.slice AC1 nC1 cC1)), .agg (mqCells sF (.slice AW3 nW3 cW3) (.slice AC3 nC3 cC3))] W fun e w' => e = .returned (.bool true) ∧ Below W.heap.size W w') := ⟨fun W h1 h2 => h1.same h2 HGF.out⟩
        have HT12 : Aside0 (∀ W, Hd w W b10 sF lF (.slice AW1 nW1 cW1) (.slice AC1 nC1 cC1) (.slice AL1 nL1 cL1) → Hd w W b12 sF lF (.slice AW2 nW2 cW2) (.slice AC2 nC2 cC2) (.slice AL2 nL2 cL2) → Calls Tryz.prog 25 #[.slice AL1 nL1 cL1, .slice AL2 nL2 cL2] W fun e w' => e = .returned (.bool true) ∧ Below W.heap.size W w') := ⟨fun W h1 h2 => h1.acts_same h2 HLZ.out HFW.out⟩
        have HT13 : Aside0 (∀ W, Hd w W b10 sF lF (.slice AW1 nW1 cW1) (.slice AC1 nC1 cC1) (.slice AL1 nL1 cL1) → Hd w W b14 sF lF (.slice AW3 nW3 cW3) (.slice AC3 nC3 cC3) (.slice AL3 nL3 cL3) → Calls Tryz.prog 25 #[.slice AL1 nL1 cL1, .slice AL3 nL3 cL3] W fun e w' => e = .returned (.bool true) ∧ Below W.heap.size W w') := ⟨fun W h1 h2 => h1.acts_same h2 HLZ.out HFW.out⟩
        go_wp2_with (first
         | ((with_reducible refine gate_dst (N := 79) rfl ?_); refine wpList_load_row rfl 45 (.tmp 10) rfl b10 rfl 45 (mqCells sF (.slice AW1 nW1 cW1) (.slice AC1 nC1 cC1)) (0, 0) _ HD1.out.blk Tryz.underlying45 rfl (by kernel_rfl) ?_)
         | ((with_reducible refine gate_dst (N := 80) rfl ?_); refine wpList_load_row rfl 45 (.tmp 12) rfl b12 rfl 45 (mqCells sF (.slice AW2 nW2 cW2) (.slice AC2 nC2 cC2)) (0, 0) _ HD2.out.blk Tryz.underlying45 rfl (by kernel_rfl) ?_)
         | ((with_reducible refine gate_dst (N := 83) rfl ?_); refine wpList_load_row rfl 45 (.tmp 10) rfl b10 rfl 45 (mqCells sF (.slice AW1 nW1 cW1) (.slice AC1 nC1 cC1)) (0, 0) _ HD1.out.blk Tryz.underlying45 rfl (by kernel_rfl) ?_)
         | ((with_reducible refine gate_dst (N := 84) rfl ?_); refine wpList_load_row rfl 45 (.tmp 14) rfl b14 rfl 45 (mqCells sF (.slice AW3 nW3 cW3) (.slice AC3 nC3 cC3)) (0, 0) _ HD3.out.blk Tryz.underlying45 rfl (by kernel_rfl) ?_)
         | (go_at_call 24; with_reducible refine Calls.mono (HS12.out _ HD1.out HD2.out) ?_; rintro e6 w6 ⟨rfl, hb⟩; have HD1 := Amk (HD1.out.below hb); have HD2 := Amk (HD2.out.below hb); have HD3 := Amk (HD3.out.below hb); have HBY := Amk (bth HBY.out HBY.out.size hb); clear hb; obtain ⟨k0, k1, k2, k3, k4, k5, k6⟩ := mq_cells HD1.out.blk; obtain ⟨m0, m1, m2, m3, m4, m5, m6⟩ := mq_cells HD3.out.blk)
         | (go_at_call 24; refine Calls.mono (HS13.out _ HD1.out HD3.out) ?_; rintro e6 w6 ⟨rfl, hb⟩; have HD1 := Amk (HD1.out.below hb); have HD2 := Amk (HD2.out.below hb); have HD3 := Amk (HD3.out.below hb); have HBY := Amk (bth HBY.out HBY.out.size hb); clear hb; obtain ⟨k0, k1, k2, k3, k4, k5, k6⟩ := mq_cells HD1.out.blk; obtain ⟨m0, m1, m2, m3, m4, m5, m6⟩ := mq_cells HD3.out.blk)
         | (go_at_call 25; with_reducible refine Calls.mono (HT12.out _ HD1.out HD2.out) ?_; rintro e6 w6 ⟨rfl, hb⟩; have HD1 := Amk (HD1.out.below hb); have HD2 := Amk (HD2.out.below hb); have HD3 := Amk (HD3.out.below hb); have HBY := Amk (bth HBY.out HBY.out.size hb); clear hb; obtain ⟨k0, k1, k2, k3, k4, k5, k6⟩ := mq_cells HD1.out.blk; obtain ⟨m0, m1, m2, m3, m4, m5, m6⟩ := mq_cells HD3.out.blk)
         | (go_at_call 25; with_reducible refine Calls.mono (HT13.out _ HD1.out HD3.out) ?_; rintro e6 w6 ⟨rfl, hb⟩; have HD1 := Amk (HD1.out.below hb); have HD2 := Amk (HD2.out.below hb); have HD3 := Amk (HD3.out.below hb); have HBY := Amk (bth HBY.out HBY.out.size hb); clear hb; obtain ⟨k0, k1, k2, k3, k4, k5, k6⟩ := mq_cells HD1.out.blk; obtain ⟨m0, m1, m2, m3, m4, m5, m6⟩ := mq_cells HD3.out.blk))
        go_ret
        exact ⟨rfl, HBY.out⟩
end Go.Proofs.YtednegmjjjdinaaGreatDoor.Ext
