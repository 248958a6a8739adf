/- Texts of this claim's author, joined and pruned by a program of his (pack.py): Lg, Lh, Li. -/
import Derived.Test.YtednegmjjjdinaaGreatDoorP0
import Derived.Test.YtednegmjjjdinaaGreatDoorP1
import Derived.Test.YtednegmjjjdinaaGreatDoorP2
import Derived.Test.YtednegmjjjdinaaGreatDoorP3
import Derived.Test.YtednegmjjjdinaaGreatDoorP4
import Derived.Test.YtednegmjjjdinaaGreatDoorP5
import Derived.Test.YtednegmjjjdinaaGreatDoorP7
import Derived.Test.YtednegmjjjdinaaGreatDoorP10
import Derived.Test.YtednegmjjjdinaaGreatDoorP11
import Derived.Test.YtednegmjjjdinaaGreatDoorP12
import Derived.Test.YtednegmjjjdinaaGreatDoorP13
import Derived.Test.YtednegmjjjdinaaGreatDoorP14
import Derived.Test.YtednegmjjjdinaaGreatDoorP15
import Derived.Test.YtednegmjjjdinaaGreatDoorP16
import Derived.Test.YtednegmjjjdinaaGreatDoorP17
import Derived.Test.YtednegmjjjdinaaGreatDoorP18
set_option maxRecDepth 100000
set_option maxHeartbeats 4000000
open Go.Proofs.YtednegmjjjdinaaGreatDoorW.PrintWords renaming below_alloc → bal, blk_alloc → bka, below_then → bth, blk_lt → blt
open Go.Proofs.YtednegmjjjdinaaGreatDoorW.PrintWords.Aside0 renaming mk → Amk
namespace Go.Proofs.YtednegmjjjdinaaGreatDoor.Ext
open Go.RowKit Go.Proofs.YtednegmjjjdinaaGreatDoorW.PrintWords Go.Proofs.YtednegmjjjdinaaGreatDoorW.PrintLast Go.Proofs.YtednegmjjjdinaaGreatDoorW.PrintMore
set_option linter.unusedVariables false
set_option linter.unusedSimpArgs false
def GQ0 (w : World) (s : Mq) (e : Ending) (w' : World) : Prop := ∃ vW vC, e = .returned (.tuple #[.agg (mqCells s vW vC), .slice none 0 0]) ∧ kOp.R 64 w' w.heap.size (fun _ => True) vW s.will ∧ (Kd.int .i64).R 3 w' w.heap.size (fun _ => True) vC s.codes ∧ Below w.heap.size w w'
theorem give_down (s : Mq) (AW : Option Addr) (cW : Nat) (AC : Option Addr) (cC : Nat) (a0 a1 a2 b4 : Int) (a3 b0 b1 : ByteArray) (a4 a5 b3 : Bool) (A8 : Option Addr) (n8 c8 : Nat) (w : World) (hI : MqIn w s AW cW AC cC) (hG : WI w) (hd : s.down = true) (hz : b0.size ≤ 1048576) :
  Calls Tryz.prog 31 #[mqAgg s AW cW AC cC, .agg #[.int .i64 a0, .int .i64 a1, .int .i64 a2, .string a3, .bool a4, .bool a5, .string b0, .string b1, .slice A8 n8 c8, .bool b3, .int .i64 b4]] w (GQ0 w s) := by
 have HC : Aside0 (∀ W, Below w.heap.size w W → Calls Tryz.prog 67 #[mqAgg s AW cW AC cC] W fun e w' => ∃ vW vC, e = .returned (.agg (mqCells s vW vC)) ∧ kOp.R 64 w' W.heap.size (fun _ => True) vW s.will ∧ (Kd.int .i64).R 3 w' W.heap.size (fun _ => True) vC s.codes ∧ Below W.heap.size W w') := ⟨fun W hB => copied_calls s AW cW AC cC W (hI.below hB)⟩
 have HG := Amk hG
 have HSL : Aside0 (∀ W, WI W → Calls Tryz.prog 57 #[.string b0] W fun e w' => e = .returned (.tuple #[.string (U.out (M.slashB b0.data.toList)).1, .int .i64 (U.out (M.slashB b0.data.toList)).2]) ∧ Below W.heap.size W w') := ⟨fun W hW => U.slashes_calls b0 hz W hW⟩
 clear hI hG hz
 obtain ⟨rest, up, down, client, clean, will, codes⟩ := s
 simp only at hd
 subst hd
 simp only [mqAgg, mqCells] at *
 generalize will.length = nW at *
 generalize codes.length = nC at *
 have HBX : Aside0 ((((w.alloc (.cells #[.string rest, .bool up, .bool true, .string client, .bool clean, .slice AW nW cW, .slice AC nC cC] 45)).alloc (.cells #[.int .i64 a0, .int .i64 a1, .int .i64 a2, .string a3, .bool a4, .bool a5, .string b0, .string b1, .slice A8 n8 c8, .bool b3, .int .i64 b4] 66)).alloc (.cells #[.string ⟨#[]⟩, .bool false, .bool false, .string ⟨#[]⟩, .bool false, .slice none 0 0, .slice none 0 0] 45)).heap[w.heap.size]? = some (.cells #[.string rest, .bool up, .bool true, .string client, .bool clean, .slice AW nW cW, .slice AC nC cC] 45 (0, 0))) := ⟨bka (bka (heap_alloc_new w _) _) _⟩
 have HBO : Aside0 ((((w.alloc (.cells #[.string rest, .bool up, .bool true, .string client, .bool clean, .slice AW nW cW, .slice AC nC cC] 45)).alloc (.cells #[.int .i64 a0, .int .i64 a1, .int .i64 a2, .string a3, .bool a4, .bool a5, .string b0, .string b1, .slice A8 n8 c8, .bool b3, .int .i64 b4] 66)).alloc (.cells #[.string ⟨#[]⟩, .bool false, .bool false, .string ⟨#[]⟩, .bool false, .slice none 0 0, .slice none 0 0] 45)).heap[w.heap.size + 1]? = some (.cells #[.int .i64 a0, .int .i64 a1, .int .i64 a2, .string a3, .bool a4, .bool a5, .string b0, .string b1, .slice A8 n8 c8, .bool b3, .int .i64 b4] 66 (0, 0))) := ⟨by have := heap_alloc_new (w.alloc (.cells #[.string rest, .bool up, .bool true, .string client, .bool clean, .slice AW nW cW, .slice AC nC cC] 45)) (.cells #[.int .i64 a0, .int .i64 a1, .int .i64 a2, .string a3, .bool a4, .bool a5, .string b0, .string b1, .slice A8 n8 c8, .bool b3, .int .i64 b4] 66); rw [World.size_alloc] at this; exact bka this _⟩
 have HBR : Aside0 ((((w.alloc (.cells #[.string rest, .bool up, .bool true, .string client, .bool clean, .slice AW nW cW, .slice AC nC cC] 45)).alloc (.cells #[.int .i64 a0, .int .i64 a1, .int .i64 a2, .string a3, .bool a4, .bool a5, .string b0, .string b1, .slice A8 n8 c8, .bool b3, .int .i64 b4] 66)).alloc (.cells #[.string ⟨#[]⟩, .bool false, .bool false, .string ⟨#[]⟩, .bool false, .slice none 0 0, .slice none 0 0] 45)).heap[w.heap.size + 2]? = some (.cells #[.string ⟨#[]⟩, .bool false, .bool false, .string ⟨#[]⟩, .bool false, .slice none 0 0, .slice none 0 0] 45 (0, 0))) := ⟨by have := heap_alloc_new ((w.alloc (.cells #[.string rest, .bool up, .bool true, .string client, .bool clean, .slice AW nW cW, .slice AC nC cC] 45)).alloc (.cells #[.int .i64 a0, .int .i64 a1, .int .i64 a2, .string a3, .bool a4, .bool a5, .string b0, .string b1, .slice A8 n8 c8, .bool b3, .int .i64 b4] 66)) (.cells #[.string ⟨#[]⟩, .bool false, .bool false, .string ⟨#[]⟩, .bool false, .slice none 0 0, .slice none 0 0] 45); rwa [World.size_alloc, World.size_alloc] at this⟩
 have HB0 : Aside0 (Below w.heap.size w (((w.alloc (.cells #[.string rest, .bool up, .bool true, .string client, .bool clean, .slice AW nW cW, .slice AC nC cC] 45)).alloc (.cells #[.int .i64 a0, .int .i64 a1, .int .i64 a2, .string a3, .bool a4, .bool a5, .string b0, .string b1, .slice A8 n8 c8, .bool b3, .int .i64 b4] 66)).alloc (.cells #[.string ⟨#[]⟩, .bool false, .bool false, .string ⟨#[]⟩, .bool false, .slice none 0 0, .slice none 0 0] 45))) := ⟨bal (bal (bal (Below.refl _ _) _) _) _⟩
 go_enter Tryz.func31, Tryz.ntmps31
 go_upto_region 3 with (first
  | ((with_reducible refine gate_dst (N := 12) rfl ?_); refine wpList_load_row rfl 45 (.tmp 2) rfl w.heap.size rfl 45 (#[.string rest, .bool up, .bool true, .string client, .bool clean, .slice AW nW cW, .slice AC nC cC]) (0, 0) _ HBX.out Tryz.underlying45 rfl (by kernel_rfl) ?_)
  | (go_at_call 67; refine Calls.mono (HC.out _ HB0.out) ?_; rintro e1 w1 ⟨v1, v2, rfl, hr1, hr2, hb⟩; have HSZ0 : w.heap.size + 3 ≤ w1.heap.size := Nat.le_trans (by simp) hb.size; have HR1 := Amk (Kd.R_lower hr1 (base' := w.heap.size) (by simp; omega)); have HR2 := Amk (Kd.R_lower hr2 (base' := w.heap.size) (by simp; omega)); have HB1 : Aside0 (Below w.heap.size w w1) := ⟨bth HB0.out (by simp; omega) hb⟩; have HX1 := Amk ((hb.block _ (blt HBX.out)).trans HBX.out); have HO1 := Amk ((hb.block _ (blt HBO.out)).trans HBO.out); have HY1 := Amk ((hb.block _ (blt HBR.out)).trans HBR.out); have HSZ1 := Amk HSZ0; clear hr1 hr2 hb HSZ0; obtain ⟨A1, n1, c1, rfl, HN1⟩ := R_parts HR1.out; obtain ⟨A2, n2, c2, rfl, HN2⟩ := R_parts HR2.out)
  | ((with_reducible refine gate_store (t := 45) (p := 6) rfl ?_); refine wpList_store_blk 45 (.tmp 6) (.tmp 13) rfl rfl rfl (g := w1.heap.size) (e := 45) (.agg #[.string rest, .bool up, .bool true, .string client, .bool clean, .slice A1 n1 c1, .slice A2 n2 c2]) [.string rest, .bool up, .bool true, .string client, .bool clean, .slice A1 n1 c1, .slice A2 n2 c2] rfl rfl rfl (heap_alloc_new w1 _) (by kernel_rfl) rfl (by simp [Value.oneCell']) ?_; intro W1 hw; have hsz := HSZ1.out; have HS2 := Amk hw.blk; have HX2 := Amk (hw.blk_ (bka HX1.out _) (by omega)); have HO2 := Amk (hw.blk_ (bka HO1.out _) (by omega)); have HY2 := Amk (hw.blk_ (bka HY1.out _) (by omega)); have HB2 := Amk (hw.below (bal HB1.out _) (Nat.le_trans HB1.out.size (by simp)) HB1.out.size); have HRW := Amk (R_wrote (Kd.R_below HR1.out (bal (Below.refl _ _) _)) hw (heap_alloc_new w1 _) (by decide)); have HRC := Amk (R_wrote (Kd.R_below HR2.out (bal (Below.refl _ _) _)) hw (heap_alloc_new w1 _) (by decide)); have q6 := (blk_cell HO2.out 6).trans (show _ = some (Value.string b0) from rfl); clear hw hsz)
  | (go_at_call 57; refine Calls.mono (HSL.out _ (HG.out.below HB2.out)) ?_; rintro e2 w2 ⟨rfl, hb⟩; have HB3 := Amk (bth HB2.out HB2.out.size hb); have HS3 := Amk ((hb.block _ (blt HS2.out)).trans HS2.out); have HX3 := Amk ((hb.block _ (blt HX2.out)).trans HX2.out); have HY3 := Amk ((hb.block _ (blt HY2.out)).trans HY2.out); have HRW3 := Amk (Kd.R_below HRW.out hb); have HRC3 := Amk (Kd.R_below HRC.out hb); clear hb))
 have cd := (blk_cell HX3.out 2).trans (show _ = some (Value.bool true) from rfl)
 go_wp2_with (first
  | ((with_reducible refine gate_dst (N := 32) rfl ?_); refine wpList_load_row rfl 45 (.tmp 6) rfl w1.heap.size rfl 45 (#[.string rest, .bool up, .bool true, .string client, .bool clean, .slice A1 n1 c1, .slice A2 n2 c2]) (0, 0) _ HS3.out Tryz.underlying45 rfl (by kernel_rfl) ?_)
  | ((with_reducible refine gate_store (t := 45) (p := 4) rfl ?_); refine wpList_store_blk 45 (.tmp 4) (.tmp 32) rfl rfl rfl (g := w.heap.size + 2) (e := 45) (.agg #[.string rest, .bool up, .bool true, .string client, .bool clean, .slice A1 n1 c1, .slice A2 n2 c2]) [.string rest, .bool up, .bool true, .string client, .bool clean, .slice A1 n1 c1, .slice A2 n2 c2] rfl rfl rfl HY3.out (by kernel_rfl) rfl (by simp [Value.oneCell']) ?_; intro W6 hw; have HW6 := Amk hw; clear hw))
 refine bodyPost_ret (give_results rfl rfl HW6.out.blk rfl) rfl ?_
 exact ⟨_, _, rfl, R_wrote HRW3.out HW6.out HY3.out (by decide), R_wrote HRC3.out HW6.out HY3.out (by decide), HW6.out.below HB3.out HB3.out.size (by omega)⟩
theorem told_down (s : Mq) (AW : Option Addr) (cW : Nat) (AC : Option Addr) (cC : Nat) (conn : Int) (kind ref e : Int) (bytes text : ByteArray) (AO : Option Addr) (nO cO : Nat) (id : Nat) (w : World) (hI : MqIn w s AW cW AC cC) (hG : WI w) (hd : s.down = true) :
  Calls Tryz.prog 30 #[mqAgg s AW cW AC cC, .int .i64 conn, .agg #[.int .i64 kind, .string bytes, .slice AO nO cO, .int .i64 ref, .string text], .int .i64 e] w (TQ w (toldM s ref text id e)) := by
 have HC : Aside0 (∀ W, Below w.heap.size w W → Calls Tryz.prog 67 #[mqAgg s AW cW AC cC] W fun e w' => ∃ vW vC, e = .returned (.agg (mqCells s vW vC)) ∧ kOp.R 64 w' W.heap.size (fun _ => True) vW s.will ∧ (Kd.int .i64).R 3 w' W.heap.size (fun _ => True) vC s.codes ∧ Below W.heap.size W w') := ⟨fun W hB => copied_calls s AW cW AC cC W (hI.below hB)⟩
 have HG := Amk hG
 have HD := Amk hd
 clear hI hG hd
 obtain ⟨R, hR⟩ : ∃ R, toldM s ref text id e = R := ⟨_, rfl⟩
 have HR := Amk hR
 rw [hR]
 clear hR
 obtain ⟨⟨restl⟩, up, down, client, clean, will, codes⟩ := s
 obtain ⟨restl⟩ := restl
 simp only [mqAgg, mqCells] at *
 generalize will.length = nW at *
 generalize codes.length = nC at *
 have HBX : Aside0 (((((w.alloc (.cells #[.string ⟨restl.toArray⟩, .bool up, .bool down, .string client, .bool clean, .slice AW nW cW, .slice AC nC cC] 45)).alloc (.cells #[.int .i64 kind, .string bytes, .slice AO nO cO, .int .i64 ref, .string text] 57)).alloc (.cells #[.int .i64 e] 24)).alloc (.cells #[.string ⟨#[]⟩, .bool false, .bool false, .string ⟨#[]⟩, .bool false, .slice none 0 0, .slice none 0 0] 45)).heap[w.heap.size]? = some (.cells #[.string ⟨restl.toArray⟩, .bool up, .bool down, .string client, .bool clean, .slice AW nW cW, .slice AC nC cC] 45 (0, 0))) := ⟨bka (bka (bka (heap_alloc_new w _) _) _) _⟩
 have HBA : Aside0 (((((w.alloc (.cells #[.string ⟨restl.toArray⟩, .bool up, .bool down, .string client, .bool clean, .slice AW nW cW, .slice AC nC cC] 45)).alloc (.cells #[.int .i64 kind, .string bytes, .slice AO nO cO, .int .i64 ref, .string text] 57)).alloc (.cells #[.int .i64 e] 24)).alloc (.cells #[.string ⟨#[]⟩, .bool false, .bool false, .string ⟨#[]⟩, .bool false, .slice none 0 0, .slice none 0 0] 45)).heap[w.heap.size + 1]? = some (.cells #[.int .i64 kind, .string bytes, .slice AO nO cO, .int .i64 ref, .string text] 57 (0, 0))) := ⟨by have := heap_alloc_new (w.alloc (.cells #[.string ⟨restl.toArray⟩, .bool up, .bool down, .string client, .bool clean, .slice AW nW cW, .slice AC nC cC] 45)) (.cells #[.int .i64 kind, .string bytes, .slice AO nO cO, .int .i64 ref, .string text] 57); rw [World.size_alloc] at this; exact bka (bka this _) _⟩
 have HBE : Aside0 (((((w.alloc (.cells #[.string ⟨restl.toArray⟩, .bool up, .bool down, .string client, .bool clean, .slice AW nW cW, .slice AC nC cC] 45)).alloc (.cells #[.int .i64 kind, .string bytes, .slice AO nO cO, .int .i64 ref, .string text] 57)).alloc (.cells #[.int .i64 e] 24)).alloc (.cells #[.string ⟨#[]⟩, .bool false, .bool false, .string ⟨#[]⟩, .bool false, .slice none 0 0, .slice none 0 0] 45)).heap[w.heap.size + 2]? = some (.cells #[.int .i64 e] 24 (0, 0))) := ⟨by have := heap_alloc_new ((w.alloc (.cells #[.string ⟨restl.toArray⟩, .bool up, .bool down, .string client, .bool clean, .slice AW nW cW, .slice AC nC cC] 45)).alloc (.cells #[.int .i64 kind, .string bytes, .slice AO nO cO, .int .i64 ref, .string text] 57)) (.cells #[.int .i64 e] 24); rw [World.size_alloc, World.size_alloc] at this; exact bka this _⟩
 have HBR : Aside0 (((((w.alloc (.cells #[.string ⟨restl.toArray⟩, .bool up, .bool down, .string client, .bool clean, .slice AW nW cW, .slice AC nC cC] 45)).alloc (.cells #[.int .i64 kind, .string bytes, .slice AO nO cO, .int .i64 ref, .string text] 57)).alloc (.cells #[.int .i64 e] 24)).alloc (.cells #[.string ⟨#[]⟩, .bool false, .bool false, .string ⟨#[]⟩, .bool false, .slice none 0 0, .slice none 0 0] 45)).heap[w.heap.size + 3]? = some (.cells #[.string ⟨#[]⟩, .bool false, .bool false, .string ⟨#[]⟩, .bool false, .slice none 0 0, .slice none 0 0] 45 (0, 0))) := ⟨by have := heap_alloc_new (((w.alloc (.cells #[.string ⟨restl.toArray⟩, .bool up, .bool down, .string client, .bool clean, .slice AW nW cW, .slice AC nC cC] 45)).alloc (.cells #[.int .i64 kind, .string bytes, .slice AO nO cO, .int .i64 ref, .string text] 57)).alloc (.cells #[.int .i64 e] 24)) (.cells #[.string ⟨#[]⟩, .bool false, .bool false, .string ⟨#[]⟩, .bool false, .slice none 0 0, .slice none 0 0] 45); rwa [World.size_alloc, World.size_alloc, World.size_alloc] at this⟩
 have HB0 : Aside0 (Below w.heap.size w ((((w.alloc (.cells #[.string ⟨restl.toArray⟩, .bool up, .bool down, .string client, .bool clean, .slice AW nW cW, .slice AC nC cC] 45)).alloc (.cells #[.int .i64 kind, .string bytes, .slice AO nO cO, .int .i64 ref, .string text] 57)).alloc (.cells #[.int .i64 e] 24)).alloc (.cells #[.string ⟨#[]⟩, .bool false, .bool false, .string ⟨#[]⟩, .bool false, .slice none 0 0, .slice none 0 0] 45))) := ⟨bal (bal (bal (bal (Below.refl _ _) _) _) _) _⟩
 go_enter Tryz.func30, Tryz.ntmps30
 go_upto_region 3 with (first
  | ((with_reducible refine gate_dst (N := 14) rfl ?_); refine wpList_load_row rfl 45 (.tmp 4) rfl w.heap.size rfl 45 (#[.string ⟨restl.toArray⟩, .bool up, .bool down, .string client, .bool clean, .slice AW nW cW, .slice AC nC cC]) (0, 0) _ HBX.out Tryz.underlying45 rfl (by kernel_rfl) ?_)
  | (go_at_call 67; refine Calls.mono (HC.out _ HB0.out) ?_; rintro e1 w1 ⟨v1, v2, rfl, hr1, hr2, hb⟩; have HSZ0 : w.heap.size + 4 ≤ w1.heap.size := Nat.le_trans (by simp) hb.size; have HR1 := Amk (Kd.R_lower hr1 (base' := w.heap.size) (by simp; omega)); have HR2 := Amk (Kd.R_lower hr2 (base' := w.heap.size) (by simp; omega)); have HB1 : Aside0 (Below w.heap.size w w1) := ⟨bth HB0.out (by simp; omega) hb⟩; have HX1 := Amk ((hb.block _ (blt HBX.out)).trans HBX.out); have HA1 := Amk ((hb.block _ (blt HBA.out)).trans HBA.out); have HE1 := Amk ((hb.block _ (blt HBE.out)).trans HBE.out); have HY1 := Amk ((hb.block _ (blt HBR.out)).trans HBR.out); have HSZ1 := Amk HSZ0; clear hr1 hr2 hb HSZ0; obtain ⟨A1, n1, c1, rfl, HN1⟩ := R_parts HR1.out; obtain ⟨A2, n2, c2, rfl, HN2⟩ := R_parts HR2.out)
  | ((with_reducible refine gate_store (t := 45) (p := 10) rfl ?_); refine wpList_store_blk 45 (.tmp 10) (.tmp 15) rfl rfl rfl (g := w1.heap.size) (e := 45) (.agg #[.string ⟨restl.toArray⟩, .bool up, .bool down, .string client, .bool clean, .slice A1 n1 c1, .slice A2 n2 c2]) [.string ⟨restl.toArray⟩, .bool up, .bool down, .string client, .bool clean, .slice A1 n1 c1, .slice A2 n2 c2] rfl rfl rfl (heap_alloc_new w1 _) (by kernel_rfl) rfl (by simp [Value.oneCell']) ?_; intro W1 hw; have HW1 := Amk hw; clear hw))
 have HSZ2 := Amk HW1.out.grown.size
 have HF0 : Aside0 (Fr w _ _ w1.heap.size (⟨⟨⟨restl⟩⟩, up, down, client, clean, will, codes⟩ : Mq) conn [] (.slice A1 n1 c1) (.slice A2 n2 c2) (.slice none 0 0)) := ⟨Fr.new HW1.out.blk (R_wrote (Kd.R_below HR1.out (bal (Below.refl _ _) _)) HW1.out (heap_alloc_new w1 _) (by decide)) (R_wrote (Kd.R_below HR2.out (bal (Below.refl _ _) _)) HW1.out (heap_alloc_new w1 _) (by decide)) HB1.out.size (HW1.out.below (bal HB1.out _) (Nat.le_trans HB1.out.size (by simp)) HB1.out.size) conn⟩
 have HF := Amk (HF0.out.alloc (.cells #[.pointer (some ⟨W1.heap.size, 0, none⟩)] 103))
 have HX := Amk (bka (bka (HW1.out.blk_ (bka HX1.out (.cells #[.string ⟨#[]⟩, .bool false, .bool false, .string ⟨#[]⟩, .bool false, .slice none 0 0, .slice none 0 0] 45)) (by have := HSZ1.out; omega)) (.cells #[.pointer (some ⟨w1.heap.size, 0, none⟩), .int .i64 conn, .slice none 0 0] 106)) (.cells #[.pointer (some ⟨W1.heap.size, 0, none⟩)] 103))
 have HA := Amk (bka (bka (HW1.out.blk_ (bka HA1.out (.cells #[.string ⟨#[]⟩, .bool false, .bool false, .string ⟨#[]⟩, .bool false, .slice none 0 0, .slice none 0 0] 45)) (by have := HSZ1.out; omega)) (.cells #[.pointer (some ⟨w1.heap.size, 0, none⟩), .int .i64 conn, .slice none 0 0] 106)) (.cells #[.pointer (some ⟨W1.heap.size, 0, none⟩)] 103))
 have HE := Amk (bka (bka (HW1.out.blk_ (bka HE1.out (.cells #[.string ⟨#[]⟩, .bool false, .bool false, .string ⟨#[]⟩, .bool false, .slice none 0 0, .slice none 0 0] 45)) (by have := HSZ1.out; omega)) (.cells #[.pointer (some ⟨w1.heap.size, 0, none⟩), .int .i64 conn, .slice none 0 0] 106)) (.cells #[.pointer (some ⟨W1.heap.size, 0, none⟩)] 103))
 have HY := Amk (bka (bka (HW1.out.blk_ (bka HY1.out (.cells #[.string ⟨#[]⟩, .bool false, .bool false, .string ⟨#[]⟩, .bool false, .slice none 0 0, .slice none 0 0] 45)) (by have := HSZ1.out; omega)) (.cells #[.pointer (some ⟨w1.heap.size, 0, none⟩), .int .i64 conn, .slice none 0 0] 106)) (.cells #[.pointer (some ⟨W1.heap.size, 0, none⟩)] 103))
 have HP := Amk (heap_alloc_new (W1.alloc (.cells #[.pointer (some ⟨w1.heap.size, 0, none⟩), .int .i64 conn, .slice none 0 0] 106)) (.cells #[.pointer (some ⟨W1.heap.size, 0, none⟩)] 103))
 have HO : Aside0 (w.heap.size + 3 < w1.heap.size ∧ w1.heap.size < W1.heap.size) := ⟨by have := HSZ1.out; omega, by have := blt HW1.out.blk; exact this⟩
 rw [World.size_alloc] at HP
 clear HF0 HX1 HY1 HA1 HE1 HW1 HB1 HR1 HR2 HSZ1 HSZ2 HB0 HBX HBR HBA HBE HC
 generalize (W1.alloc (.cells #[.pointer (some ⟨w1.heap.size, 0, none⟩), .int .i64 conn, .slice none 0 0] 106)).alloc (.cells #[.pointer (some ⟨W1.heap.size, 0, none⟩)] 103) = W3 at *
 generalize W1.heap.size = f at *
 generalize w1.heap.size = o at *
 cases down with
 | true =>
  obtain rfl : R = ((⟨⟨⟨restl⟩⟩, up, true, client, clean, will, codes⟩ : Mq), []) := by rw [← HR.out]; exact toldM_down _ _ _ _ rfl
  have cd := (blk_cell HX.out 2).trans (show _ = some (Value.bool true) from rfl)
  go_wp2_with (first
   | ((with_reducible refine gate_dst (N := 21) rfl ?_); refine wpList_load_row rfl 45 (.tmp 10) rfl o rfl 45 (#[.string ⟨⟨restl⟩⟩, .bool up, .bool true, .string client, .bool clean, .slice A1 n1 c1, .slice A2 n2 c2]) (0, 0) _ HF.out.own.blk Tryz.underlying45 rfl (by kernel_rfl) ?_)
   | ((with_reducible refine gate_store (t := 45) (p := 8) rfl ?_); refine wpList_store_blk 45 (.tmp 8) (.tmp 21) rfl rfl rfl (g := w.heap.size + 3) (e := 45) (.agg #[.string ⟨⟨restl⟩⟩, .bool up, .bool true, .string client, .bool clean, .slice A1 n1 c1, .slice A2 n2 c2]) [.string ⟨⟨restl⟩⟩, .bool up, .bool true, .string client, .bool clean, .slice A1 n1 c1, .slice A2 n2 c2] rfl rfl rfl HY.out (by kernel_rfl) rfl (by simp [Value.oneCell']) ?_; intro W6 hw; have HW6 := Amk hw; clear hw))
  refine bodyPost_ret (told_results rfl rfl HW6.out.blk rfl) rfl ?_
  exact ⟨_, _, _, rfl, R_wrote HF.out.own.will HW6.out HY.out (by decide), R_wrote HF.out.own.codes HW6.out HY.out (by decide), Kd.R_nil _ _ _ _ _, HW6.out.below HF.out.bel HF.out.sz (by omega)⟩
 | false => exact absurd HD.out (by simp)
theorem EndAt.at {l : List BAct} {d : Bool} (h : EndAt l d) (i : Nat) (x : BAct) (hi : i < l.length) (hx : l[i] = x) : (x.kind = 3 → i + 1 = l.length ∧ d = true) ∧ (x.kind ≠ 3 → ¬(i + 1 = l.length ∧ d = true)) := by
 rcases h with ⟨rfl, h⟩ | ⟨rfl, p, rfl, h⟩
 ·
  have := h x (hx ▸ List.getElem_mem hi)
  exact ⟨fun e => absurd e this, fun _ e => by simp at e⟩
 ·
  rw [List.length_append, List.length_singleton] at hi
  rw [List.length_append, List.length_singleton]
  by_cases hp : i < p.length
  ·
   rw [List.getElem_append_left hp] at hx
   have := h x (hx ▸ List.getElem_mem hp)
   exact ⟨fun e => absurd e this, fun _ e => by omega⟩
  ·
   have hpi : i = p.length := by omega
   subst hpi
   rw [List.getElem_append_right (Nat.le_refl _)] at hx
   have e : endAct = x := by simpa using hx
   subst e
   exact ⟨fun _ => ⟨rfl, rfl⟩, fun e => absurd rfl e⟩
theorem EndAt.some {l : List BAct} (h : EndAt l true) : 0 < l.length := by
 rcases h with ⟨h, _⟩ | ⟨_, p, rfl, _⟩
 ·
  cases h
 ·
  simp
theorem good_new : Good newMq := ⟨⟨by simp [newMq], by simp [newMq], by simp [newMq], by simp [newMq, ByteArray.size]⟩, fun _ => rfl⟩
theorem down_calls (conn : Int) (hc0 : -9223372036854775808 ≤ conn) (hc1 : conn ≤ 9223372036854775807) (AH : Option Addr) (nH cH : Nat) (AA : Option Addr) (nA cA : Nat) (AO : Option Addr) (nO cO : Nat) (chunks : List ByteArray) (answers : List Int) (outs : List K.S66) (more : ByteArray) (w : World) (hG : WI w)
  (hC : Kd.string.C w AH nH chunks) (hA : (Kd.int .i64).C w AA nA answers) (hO : K.k66.C w AO nO outs) (hnH : nH ≤ 140737488355328) (hnA : nA ≤ 140737488355328) (hnO : nO ≤ 140737488355328) (hcs : ∀ c ∈ chunks, c.size ≤ 140737488355328)
  (hos : ∀ o ∈ outs, o.f6.f2.length ≤ 140737488355328 ∧ ∀ x ∈ o.f6.f2, x.f0.size ≤ 140737488355328) (hmo : more.size ≤ 140737488355328) :
  Calls Tryz.prog 8 #[.int .i64 conn, .agg #[.slice AH nH cH, .slice AA nA cA, .slice AO nO cO], .string more] w fun e w' => e = .returned (.bool true) ∧ Below w.heap.size w w' := by
 have HG := Amk hG
 have HC := Amk hC
 have HA := Amk hA
 have HO := Amk hO
 have HNB := Amk (And.intro hnH (And.intro hnA hnO))
 have HCS := Amk hcs
 have HOS := Amk hos
 have HNO : Aside0 (outs.length = nO) := ⟨hO.1⟩
 have HNH : Aside0 (chunks.length = nH) := ⟨hC.1⟩
 have HB0 := Amk (bal (Below.refl w.heap.size w) (.cells #[.slice AH nH cH, .slice AA nA cA, .slice AO nO cO] 41))
 have HBX := Amk (heap_alloc_new w (.cells #[.slice AH nH cH, .slice AA nA cA, .slice AO nO cO] 41))
 clear hG hC hA hO hnH hnA hnO hcs hos
 go_enter Tryz.func8, Tryz.ntmps8
 go_upto_region 3 with (go_at_call 21; refine Calls.mono (wakes_calls _ (HG.out.below HB0.out)) ?_; rintro e1 w1 ⟨rfl, hb⟩; have HB1 := Amk (bth HB0.out HB0.out.size hb); have HX1 := Amk ((hb.block _ (blt HBX.out)).trans HBX.out); clear hb)
 go_cut [35] (fun s35 wx => ∃ b35, s35 = .bool b35 ∧ Aside0 (b35 = false → Light chunks nA outs ∧ 0 ≤ conn ∧ conn < 8 ∧ more.size ≤ 4096) ∧ Aside0 (Below w.heap.size w wx) ∧ Aside0 (wx.heap[w.heap.size]? = some (.cells #[.slice AH nH cH, .slice AA nA cA, .slice AO nO cO] 41 (0, 0))))
 case first =>
  have hv : ∃ b1 b2 b3 : Bool, decide (conn < 0) = b1 ∧ decide (8 ≤ conn) = b2 ∧ decide ((4096 : Int) < (more.size : Int)) = b3 ∧ decide (4096 < more.size) = b3 ∧ Aside0 (b1 = false → b2 = false → b3 = false → 0 ≤ conn ∧ conn < 8 ∧ more.size ≤ 4096) := by
   refine ⟨_, _, _, rfl, rfl, rfl, ?_, ⟨fun h1 h2 h3 => ?_⟩⟩
   ·
    by_cases h : 4096 < more.size
    ·
     rw [decide_eq_true h, decide_eq_true (by omega)]
    ·
     rw [decide_eq_false h, decide_eq_false (by omega)]
   ·
    have h1 := of_decide_eq_false h1
    have h2 := of_decide_eq_false h2
    have h3 := of_decide_eq_false h3
    omega
  obtain ⟨b1, b2, b3, e1, e2, e3, e4, HV⟩ := hv
  go_wp2_with (first
   | ((with_reducible refine gate_dst (N := 21) rfl ?_); refine wpList_load_row rfl 41 (.tmp 4) rfl w.heap.size rfl 41 #[.slice AH nH cH, .slice AA nA cA, .slice AO nO cO] (0, 0) _ HX1.out Tryz.underlying41 rfl (by kernel_rfl) ?_)
   | (go_at_call 22; refine Calls.mono (heavy_calls AH nH cH AA nA cA AO nO cO chunks outs _ (Kd.C_below HC.out HB1.out) (Kd.C_below HO.out HB1.out) HNB.out.1 HNB.out.2.1 HNB.out.2.2 HCS.out HOS.out) ?_; rintro e2 w2 ⟨b0, rfl, hl, hb⟩; have HL := Amk hl; have HB2 := Amk (bth HB1.out HB1.out.size hb); have HX2 := Amk ((hb.block _ (blt HX1.out)).trans HX1.out); clear hb hl; cases b0 <;> cases b1 <;> cases b2 <;> cases b3))
  all_goals go_meet
  all_goals first
   | exact ⟨_, rfl, ⟨fun h => Bool.noConfusion h⟩, HB2, HX2⟩
   | exact ⟨_, rfl, ⟨fun _ => ⟨HL.out (by trivial), HV.out (by trivial) (by trivial) (by trivial)⟩⟩, HB2, HX2⟩
 case rest =>
  obtain ⟨b35, rfl, HV, HB2, HX2⟩ := hcut
  clear HB1 HX1 HB0 HBX
  cases b35 with
  | true =>
   go_wp2_with fail
   go_ret
   exact ⟨rfl, HB2.out⟩
  | false =>
   obtain ⟨HLt, hc2, hc3, hmz⟩ := HV.out rfl
   have HLT := Amk HLt
   have hHb : nH ≤ 16384 := by have := HLt.bytes; have := HNH.out; omega
   have hAb : nA ≤ 16384 := by have := HLt.bytes; omega
   have hZb : (lists chunks).flatten.length ≤ 16384 := by have := HLt.bytes; unfold bytesIn at this; omega
   obtain ⟨sF, nF, lF, hH⟩ := Heard.run (ansF answers) conn (lists chunks) newMq 0 good_new
   obtain ⟨hgF, hlF, hrF⟩ := hH.ok good_new
   have hlF2 : lF.length ≤ 557124 := by
    have hl : left newMq = 2 := by simp [left, newMq, ByteArray.size]
    rw [hl] at hlF; omega
   have hrF2 : sF.rest.size ≤ 16384 := by
    have : newMq.rest.size = 0 := rfl
    omega
   have HE := Amk (hH.ends rfl)
   have HGF := Amk hgF
   have HHC : Aside0 (∀ W, Below w.heap.size w W → Calls Tryz.prog 23 #[.int .i64 conn, .slice AH nH cH, .agg #[.slice AH nH cH, .slice AA nA cA, .slice AO nO cO]] W (TQ W (sF, lF))) := ⟨fun W hB => heard_calls conn hc2 (by omega) chunks answers AH nH cH (.slice AH nH cH) (.slice AO nO cO) AA nA cA W (HG.out.below hB) (Kd.C_below HC.out hB) (Kd.C_below HA.out hB) hHb hAb sF nF lF hH hZb⟩
   have HCB := Amk (And.intro hc2 hc3)
   have HRZ := Amk (And.intro hrF2 hmz)
   have HLZ := Amk hlF2
   have q0 := (blk_cell HX2.out 0).trans (show _ = some (Value.slice AH nH cH) from rfl)
   clear hH hgF hlF hrF hrF2 hlF2 HLt hHb hAb hZb hc2 hc3 hmz HV HCS HOS hc0 hc1 hmo HC HA HNH HNB
   go_wp2_with (first
    | ((with_reducible refine gate_dst (N := 40) rfl ?_); refine wpList_load_row rfl 41 (.tmp 4) rfl w.heap.size rfl 41 #[.slice AH nH cH, .slice AA nA cA, .slice AO nO cO] (0, 0) _ HX2.out Tryz.underlying41 rfl (by kernel_rfl) ?_)
    | (go_at_call 23; refine Calls.mono (HHC.out _ HB2.out) ?_; rintro e3 w3 ⟨v1, v2, v3, rfl, hr1, hr2, hr3, hb⟩; have HB3 := Amk (bth HB2.out HB2.out.size hb); have HX3 := Amk ((hb.block _ (blt HX2.out)).trans HX2.out); have HR1 := Amk (Kd.R_lower hr1 HB2.out.size); have HR2 := Amk (Kd.R_lower hr2 HB2.out.size); have HR3 := Amk (Kd.R_lower hr3 HB2.out.size); clear hr1 hr2 hr3 hb; obtain ⟨AW, nW, cW, rfl, _⟩ := R_parts HR1.out; obtain ⟨AC, nC, cC, rfl, _⟩ := R_parts HR2.out; obtain ⟨AL, nL, cL, rfl, HNL⟩ := R_parts HR3.out)
    | ((with_reducible refine gate_store (t := 45) (p := 7) rfl ?_); refine wpList_store_blk 45 (.tmp 7) (.tmp 42) rfl rfl rfl (g := w3.heap.size) (e := 45) (.agg (mqCells sF (.slice AW nW cW) (.slice AC nC cC))) (mqCells sF (.slice AW nW cW) (.slice AC nC cC)).toList rfl rfl rfl (heap_alloc_new w3 _) (by kernel_rfl) rfl (by simp [mqCells, Value.oneCell']) ?_; intro W3 hw; have HB4 := Amk (hw.below (bal (Below.refl w3.heap.size w3) _) (by simp) (Nat.le_refl _)); have HDN : Aside0 (Dn w W3 w.heap.size w3.heap.size #[.slice AH nH cH, .slice AA nA cA, .slice AO nO cO] sF (.slice AW nW cW) (.slice AC nC cC)) := ⟨⟨hw.blk, (HB4.out.block _ (blt HX3.out)).trans HX3.out, Kd.R_below HR1.out HB4.out, Kd.R_below HR2.out HB4.out, bth HB3.out HB3.out.size HB4.out, HB3.out.size, Nat.le_refl _⟩⟩; have HR4 := Amk (Kd.R_below HR3.out HB4.out); clear hw))
   generalize w3.heap.size = sb at *
   clear HR1 HR2 HR3 HB3 HX3 HB4 HB2 HX2 q0
   go_loopg [46, 9] nL (fun kq v46 v9 wx => ∃ (i : Nat) (e : Int), v46 = .int .i64 (i : Nat) ∧ v9 = .int .i64 e ∧ i + kq = nL ∧ (i < nL → e = 0) ∧ (i = nL → e = if sF.down = true then 1 else 0) ∧ Aside0 (Dn w wx w.heap.size sb #[.slice AH nH cH, .slice AA nA cA, .slice AO nO cO] sF (.slice AW nW cW) (.slice AC nC cC)) ∧ Aside0 (kAct.R 57 wx w.heap.size (fun _ => True) (.slice AL nL cL) lF))
   case atStart =>
    refine ⟨0, 0, rfl, rfl, by omega, fun _ => rfl, fun h => ?_, HDN, HR4⟩
    rcases HE.out with ⟨h1, _⟩ | ⟨h1, p, h2, _⟩
    ·
     rw [h1]; rfl
    ·
     have := HNL.out; rw [h2] at this; simp at this; omega
   case round =>
    clear HDN HR4
    obtain ⟨i, e, rfl, rfl, hi, he0, he1, HDN, HR4⟩ := hrel
    cases gk with
    | zero =>
     have hge : decide ((i : Int) < (nL : Int)) = false := decide_eq_false (by omega)
     have hge2 : decide (i < nL) = false := decide_eq_false (by omega)
     have he := he1 (by omega)
     clear he0 he1 HR4
     obtain ⟨dn, hdn⟩ : ∃ dn, sF.down = dn := ⟨_, rfl⟩
     have HDW := Amk hdn
     rw [hdn] at he
     clear hdn
     cases dn with
     | false =>
      rw [if_neg (by simp)] at he
      subst he
      go_wp2_with fail
      go_ret
      exact ⟨rfl, HDN.out.bel⟩
     | true =>
      rw [if_pos rfl] at he
      subst he
      have cr := (HDN.out.cell 0).trans (show _ = some (Value.string sF.rest) from rfl)
      have zr := HDN.out.frozen 0
      have hIS : sF.rest.size + more.size ≤ 9223372036854775807 := by have := HRZ.out; omega
      have HDN2 := Amk (HDN.out.rest (sF.rest ++ more))
      have HNX : Aside0 (nextM { sF with rest := sF.rest ++ more } conn = ({ sF with rest := ⟨#[]⟩ }, [], false)) := ⟨nextM_down conn HDW.out⟩
      have HGM : Aside0 (Good { sF with rest := sF.rest ++ more }) := ⟨⟨HGF.out.1.will, HGF.out.1.codes, HGF.out.1.each, HGF.out.1.client⟩, HGF.out.2⟩
      have HMT : Aside0 (MqOk { sF with rest := ⟨#[]⟩ }) := ⟨HGF.out.1.will, HGF.out.1.codes, HGF.out.1.each, HGF.out.1.client⟩
      have HDT : Aside0 (({ sF with rest := ⟨#[]⟩ } : Mq).down = true) := ⟨HDW.out⟩
      obtain ⟨sM, hsM⟩ : ∃ sM, ({ sF with rest := sF.rest ++ more } : Mq) = sM := ⟨_, rfl⟩
      rw [hsM] at HDN2 HNX HGM
      obtain ⟨sT, hsT⟩ : ∃ sT, ({ sF with rest := ⟨#[]⟩ } : Mq) = sT := ⟨_, rfl⟩
      have hrT : sT.rest = ⟨#[]⟩ := by rw [← hsT]
      rw [hsT] at HNX HMT HDT
      have HN27 : Aside0 (∀ W, Dn w W w.heap.size sb #[.slice AH nH cH, .slice AA nA cA, .slice AO nO cO] sM (.slice AW nW cW) (.slice AC nC cC) → Calls Tryz.prog 27 #[.agg (mqCells sM (.slice AW nW cW) (.slice AC nC cC)), .int .i64 conn] W (NQ W (sT, [], false))) := ⟨fun W hD => by
       obtain ⟨h1, h2, h3⟩ := hD.inn HGM.out.1
       have h := mqnext_calls sM AW cW AC cC conn W h3 (HG.out.below hD.bel) HGM.out HCB.out.1 (by have := HCB.out; omega)
       rw [HNX.out] at h
       rw [h1, h2]
       exact h⟩
      clear hsM hsT HNX HGM HDW HRZ HGF HE
      go_upto_region 18 with fail
      generalize wr.setCell ⟨sb, 0, none⟩ (.string (sF.rest ++ more)) = wb at *
      clear cr zr hIS HDN
      go_wp2_with (first
       | ((with_reducible refine gate_dst (N := 76) rfl ?_); refine wpList_load_row rfl 45 (.tmp 7) rfl sb rfl 45 (mqCells sM (.slice AW nW cW) (.slice AC nC cC)) (0, 0) _ HDN2.out.sblk Tryz.underlying45 rfl (by kernel_rfl) ?_)
       | (go_at_call 27; refine Calls.mono (HN27.out _ HDN2.out) ?_; rintro e3 w3 ⟨v1, v2, v3, rfl, hr1, hr2, hr3, hb⟩; have HB3 := Amk (bth HDN2.out.bel HDN2.out.sz hb); have HX3 := Amk ((hb.block _ (blt HDN2.out.cblk)).trans HDN2.out.cblk); have HR1 := Amk (Kd.R_lower hr1 HDN2.out.sz); have HR2 := Amk (Kd.R_lower hr2 HDN2.out.sz); have HR3 := Amk (Kd.R_lower hr3 HDN2.out.sz); clear hr1 hr2 hr3 hb; obtain ⟨A1, n1, c1, rfl, _⟩ := R_parts HR1.out; obtain ⟨A2, n2, c2, rfl, _⟩ := R_parts HR2.out; obtain ⟨AL2, nL2, cL2, rfl, HNL2⟩ := R_parts HR3.out; have hn2 := HNL2.out; simp only [List.length_nil] at hn2; subst hn2)
       | ((with_reducible refine gate_store (t := 45) (p := 12) rfl ?_); refine wpList_store_blk 45 (.tmp 12) (.tmp 79) rfl rfl rfl (g := w3.heap.size) (e := 45) (.agg (mqCells sT (.slice A1 n1 c1) (.slice A2 n2 c2))) (mqCells sT (.slice A1 n1 c1) (.slice A2 n2 c2)).toList rfl rfl rfl (heap_alloc_new w3 _) (by kernel_rfl) rfl (by simp [mqCells, Value.oneCell']) ?_; intro W3 hw; have HB4 := Amk (hw.below (bal (Below.refl w3.heap.size w3) _) (by simp) (Nat.le_refl _)); have HD4 : Aside0 (Dn w W3 w.heap.size w3.heap.size #[.slice AH nH cH, .slice AA nA cA, .slice AO nO cO] sT (.slice A1 n1 c1) (.slice A2 n2 c2)) := ⟨⟨hw.blk, (HB4.out.block _ (blt HX3.out)).trans HX3.out, Kd.R_below HR1.out HB4.out, Kd.R_below HR2.out HB4.out, bth HB3.out HB3.out.size HB4.out, HB3.out.size, Nat.le_refl _⟩⟩; have cd := (HD4.out.cell 0).trans (show _ = some (Value.string sT.rest) from rfl); rw [hrT] at cd; have co := (blk_cell HD4.out.cblk 2).trans (show _ = some (Value.slice AO nO cO) from rfl); clear hw))
      generalize w3.heap.size = tb at *
      clear HR1 HR2 HR3 HB3 HX3 HB4 HDN2 cd co HN27
      go_loopg [100] nO (fun kq v100 wx => ∃ i : Nat, v100 = .int .i64 (i : Nat) ∧ i + kq = nO ∧ Aside0 (Dn w wx w.heap.size tb #[.slice AH nH cH, .slice AA nA cA, .slice AO nO cO] sT (.slice A1 n1 c1) (.slice A2 n2 c2)))
      case atStart => exact ⟨0, rfl, by omega, HD4⟩
      case round =>
       clear HD4
       obtain ⟨i, rfl, hi, HD4⟩ := hrel
       obtain ⟨hl1, hl2, hMI⟩ := HD4.out.inn HMT.out
       have HMI := Amk hMI
       have HL12 := Amk (And.intro hl1 hl2)
       clear hMI hl1 hl2
       cases gk with
       | zero =>
        have hge : decide ((i : Int) < (nO : Int)) = false := decide_eq_false (by omega)
        have hge2 : decide (i < nO) = false := decide_eq_false (by omega)
        have HT30 : Aside0 (∀ W, Dn w W w.heap.size tb #[.slice AH nH cH, .slice AA nA cA, .slice AO nO cO] sT (.slice A1 n1 c1) (.slice A2 n2 c2) → Calls Tryz.prog 30 #[.agg (mqCells sT (.slice A1 n1 c1) (.slice A2 n2 c2)), .int .i64 conn, .agg #[.int .i64 2, .string ⟨#[]⟩, .slice none 0 0, .int .i64 0, .string ⟨#[114]⟩], .int .i64 0] W (TQ W (sT, []))) := ⟨fun W hD => by
         obtain ⟨h1, h2, h3⟩ := hD.inn HMT.out
         have h := told_down sT A1 c1 A2 c2 conn 2 0 0 ⟨#[]⟩ ⟨#[114]⟩ none 0 0 0 W h3 (HG.out.below hD.bel) HDT.out
         rw [toldM_down _ _ _ _ HDT.out] at h
         rw [h1, h2]
         exact h⟩
        go_wp2_with (first
         | ((with_reducible refine gate_dst (N := 115) rfl ?_); refine wpList_load_row rfl 45 (.tmp 12) rfl tb rfl 45 (mqCells sT (.slice A1 n1 c1) (.slice A2 n2 c2)) (0, 0) _ HD4.out.sblk Tryz.underlying45 rfl (by kernel_rfl) ?_)
         | (go_at_call 30; refine Calls.mono (HT30.out _ HD4.out) ?_; rintro e3 w3 ⟨v1, v2, v3, rfl, hr1, hr2, hr3, hb⟩; have HB3 := Amk (bth HD4.out.bel HD4.out.sz hb); have HR3 := Amk hr3; clear hr1 hr2 hr3 hb; obtain ⟨AL3, nL3, cL3, rfl, HNL3⟩ := R_parts HR3.out; have hn3 := HNL3.out; simp only [List.length_nil] at hn3; subst hn3))
        go_ret
        exact ⟨rfl, HB3.out⟩
       | succ g =>
        have hlt : decide ((i : Int) < (nO : Int)) = true := decide_eq_true (by omega)
        have hlt2 : decide (i < nO) = true := decide_eq_true (by omega)
        have hil : i < outs.length := by have := HNO.out; omega
        have hib : i ≤ 140737488355328 := by have := HLT.out.few; have := HNO.out; omega
        obtain ⟨ad, cs, rfl, hcl, hK, hcc⟩ := Kd.C_get (Kd.C_below HO.out HD4.out.bel) K.z66 (i : Int) (by omega) (by omega)
        simp only [Int.toNat_natCast] at hcc hK
        obtain ⟨x, hx⟩ : ∃ x, outs.getD i K.z66 = x := ⟨_, rfl⟩
        have hxi : outs[i] = x := by rw [← hx]; simp [hil]
        rw [hx] at hK
        have HXM := Amk (HLT.out.each x (by rw [← hxi]; exact List.getElem_mem hil)).size
        obtain ⟨A8, c8, rfl, l8, g8⟩ := K.k66_open hK
        obtain ⟨a0, a1, a2, a3, a4, a5, ⟨b0, b1, b2, b3, b4⟩⟩ := x
        simp only at *
        obtain ⟨n8, hn8⟩ : ∃ n8, b2.length = n8 := ⟨_, rfl⟩
        rw [hn8] at hcc
        have HRG : Aside0 (∀ q u, [.int .i64 a0, .int .i64 a1, .int .i64 a2, .string a3, .bool a4, .bool a5, .string b0, .string b1, .slice A8 n8 c8, .bool b3, .int .i64 b4][q]? = some u → wr.cell? ((ad.add (i * 11)).add q) = some u) := ⟨fun q u hu => by rw [add_add]; exact hcc q u hu⟩
        clear hcc hK hx hcl g8 l8 hxi hn8
        have HT31 : Aside0 (∀ W, Dn w W w.heap.size tb #[.slice AH nH cH, .slice AA nA cA, .slice (some ad) nO cO] sT (.slice A1 n1 c1) (.slice A2 n2 c2) → Calls Tryz.prog 31 #[.agg (mqCells sT (.slice A1 n1 c1) (.slice A2 n2 c2)), .agg #[.int .i64 a0, .int .i64 a1, .int .i64 a2, .string a3, .bool a4, .bool a5, .string b0, .string b1, .slice A8 n8 c8, .bool b3, .int .i64 b4]] W (GQ0 W sT)) := ⟨fun W hD => by
         obtain ⟨h1, h2, h3⟩ := hD.inn HMT.out
         have h := give_down sT A1 c1 A2 c2 a0 a1 a2 b4 a3 b0 b1 a4 a5 b3 A8 n8 c8 W h3 (HG.out.below hD.bel) HDT.out (by have := HXM.out; omega)
         rw [h1, h2]
         exact h⟩
        go_wp2_with (first
         | ((with_reducible refine gate_dst (N := 103) rfl ?_); refine wpList_load_at rfl 66 (.tmp 102) rfl (ad.add (i * 11)) rfl [.int .i64 a0, .int .i64 a1, .int .i64 a2, .string a3, .bool a4, .bool a5, .string b0, .string b1, .slice A8 n8 c8, .bool b3, .int .i64 b4] _ HRG.out Tryz.underlying66 rfl (by kernel_rfl) ?_)
         | ((with_reducible refine gate_store (t := 66) (p := 16) rfl ?_); refine wpList_store_blk 66 (.tmp 16) (.tmp 103) rfl rfl rfl (g := wr.heap.size) (e := 66) (.agg #[.int .i64 a0, .int .i64 a1, .int .i64 a2, .string a3, .bool a4, .bool a5, .string b0, .string b1, .slice A8 n8 c8, .bool b3, .int .i64 b4]) [.int .i64 a0, .int .i64 a1, .int .i64 a2, .string a3, .bool a4, .bool a5, .string b0, .string b1, .slice A8 n8 c8, .bool b3, .int .i64 b4] rfl rfl rfl (heap_alloc_new wr _) (by kernel_rfl) rfl (by simp [mqCells, Value.oneCell']) ?_; intro W3 hw; have HB5 := Amk (hw.below (bal (Below.refl wr.heap.size wr) _) (by simp) (Nat.le_refl _)); have HD5 := Amk (HD4.out.below HB5.out); have HX5 := Amk hw.blk; clear hw)
         | ((with_reducible refine gate_dst (N := 105) rfl ?_); refine wpList_load_row rfl 45 (.tmp 12) rfl tb rfl 45 (mqCells sT (.slice A1 n1 c1) (.slice A2 n2 c2)) (0, 0) _ HD5.out.sblk Tryz.underlying45 rfl (by kernel_rfl) ?_)
         | ((with_reducible refine gate_dst (N := 106) rfl ?_); refine wpList_load_row rfl 66 (.tmp 16) rfl wr.heap.size rfl 66 #[.int .i64 a0, .int .i64 a1, .int .i64 a2, .string a3, .bool a4, .bool a5, .string b0, .string b1, .slice A8 n8 c8, .bool b3, .int .i64 b4] (0, 0) _ HX5.out Tryz.underlying66 rfl (by kernel_rfl) ?_)
         | (go_at_call 31; refine Calls.mono (HT31.out _ HD5.out) ?_; rintro e3 w3 ⟨v1, v2, rfl, hr1, hr2, hb⟩; have HD6 := Amk (HD5.out.below hb); have HR1 := Amk hr1; have HR2 := Amk hr2; clear hr1 hr2 hb; obtain ⟨A1', n1', c1', rfl, _⟩ := R_parts HR1.out; obtain ⟨A2', n2', c2', rfl, _⟩ := R_parts HR2.out)
         | ((with_reducible refine gate_store (t := 45) (p := 17) rfl ?_); refine wpList_store_blk 45 (.tmp 17) (.tmp 108) rfl rfl rfl (g := w3.heap.size) (e := 45) (.agg (mqCells sT (.slice A1' n1' c1') (.slice A2' n2' c2'))) (mqCells sT (.slice A1' n1' c1') (.slice A2' n2' c2')).toList rfl rfl rfl (heap_alloc_new w3 _) (by kernel_rfl) rfl (by simp [mqCells, Value.oneCell']) ?_; intro W3 hw; have HB7 := Amk (hw.below (bal (Below.refl w3.heap.size w3) _) (by simp) (Nat.le_refl _)); have HD7 := Amk (HD6.out.below HB7.out); clear hw))
        go_roundg g
        case rel => exact ⟨i + 1, by go_num, by omega, HD7⟩
        case measure => omega
    | succ g =>
     have hlt : decide ((i : Int) < (nL : Int)) = true := decide_eq_true (by omega)
     have hlt2 : decide (i < nL) = true := decide_eq_true (by omega)
     have he := he0 (by omega)
     subst he
     have hil : i < lF.length := by have := HNL.out; omega
     have hib : i < 1048576 := by have := HLZ.out; omega
     obtain ⟨x, hx⟩ : ∃ x, lF[i] = x := ⟨_, rfl⟩
     have HXE : Aside0 ((x.kind = 3 → i + 1 = nL ∧ sF.down = true) ∧ (x.kind ≠ 3 → ¬(i + 1 = nL ∧ sF.down = true))) := ⟨by have := EndAt.at HE.out i x hil hx; rw [← HNL.out] at this; exact this⟩
     obtain ⟨bg, cap, hvg, _, _, _⟩ := Kd.R_form HR4.out (by omega)
     injection hvg with hAg hng hcapg
     subst hAg
     obtain ⟨cs, hcl, hM, hcc, hz⟩ := Kd.R_elem HR4.out endAct (i : Int) (by omega) (by omega)
     have hgx : lF.getD (i : Int).toNat endAct = x := by rw [← hx]; simp [hil]
     rw [hgx] at hM
     obtain ⟨v2, rfl, g2⟩ := kAct_openM hM
     obtain ⟨AO2, nO2, cO2, rfl, _⟩ := R_parts g2
     obtain ⟨kind, bytes, ops, ref, text⟩ := x
     have hrange : Aside0 (wr.rangeAt bg (i * 5) [.int .i64 kind, .string bytes, .slice AO2 nO2 cO2, .int .i64 ref, .string text]) := ⟨fun q u hu => hcc q u hu⟩
     clear hcc hz hcl hM g2 hgx hx hng hcapg he0 he1
     by_cases hk : kind = 3
     ·
      subst hk
      have hke := HXE.out.1 rfl
      have HKE := Amk hke
      clear hke
      go_wp2_with (first
       | ((with_reducible refine gate_dst (N := 50) rfl ?_); refine wpList_load_mid rfl 57 (.tmp 49) rfl bg (i * 5) rfl [.int .i64 3, .string bytes, .slice AO2 nO2 cO2, .int .i64 ref, .string text] _ hrange.out Tryz.underlying57 rfl (by kernel_rfl) ?_)
       | ((with_reducible refine gate_store (t := 57) (p := 11) rfl ?_); refine wpList_store_blk 57 (.tmp 11) (.tmp 50) rfl rfl rfl (g := wr.heap.size) (e := 57) (.agg #[.int .i64 3, .string bytes, .slice AO2 nO2 cO2, .int .i64 ref, .string text]) [.int .i64 3, .string bytes, .slice AO2 nO2 cO2, .int .i64 ref, .string text] rfl rfl rfl (heap_alloc_new wr _) (by kernel_rfl) rfl (by simp [mqCells, Value.oneCell']) ?_; intro W3 hw; have HB5 := Amk (hw.below (bal (Below.refl wr.heap.size wr) _) (by simp) (Nat.le_refl _)); have HD5 := Amk (HDN.out.below HB5.out); have HR5 := Amk (Kd.R_below HR4.out HB5.out); have ck := (blk_cell hw.blk 0).trans (show _ = some (Value.int .i64 3) from rfl); clear hw))
      go_roundg g
      case rel => exact ⟨i + 1, 1, by go_num, rfl, by omega, fun h => by have := HKE.out.1; omega, fun _ => by rw [HKE.out.2]; rfl, HD5, HR5⟩
      case measure => omega
     ·
      have hk1 : (kind == 3) = false := by simpa using hk
      have hk2 : decide (kind = 3) = false := decide_eq_false hk
      have HKE := Amk (HXE.out.2 hk)
      clear hk
      go_wp2_with (first
       | ((with_reducible refine gate_dst (N := 50) rfl ?_); refine wpList_load_mid rfl 57 (.tmp 49) rfl bg (i * 5) rfl [.int .i64 kind, .string bytes, .slice AO2 nO2 cO2, .int .i64 ref, .string text] _ hrange.out Tryz.underlying57 rfl (by kernel_rfl) ?_)
       | ((with_reducible refine gate_store (t := 57) (p := 11) rfl ?_); refine wpList_store_blk 57 (.tmp 11) (.tmp 50) rfl rfl rfl (g := wr.heap.size) (e := 57) (.agg #[.int .i64 kind, .string bytes, .slice AO2 nO2 cO2, .int .i64 ref, .string text]) [.int .i64 kind, .string bytes, .slice AO2 nO2 cO2, .int .i64 ref, .string text] rfl rfl rfl (heap_alloc_new wr _) (by kernel_rfl) rfl (by simp [mqCells, Value.oneCell']) ?_; intro W3 hw; have HB5 := Amk (hw.below (bal (Below.refl wr.heap.size wr) _) (by simp) (Nat.le_refl _)); have HD5 := Amk (HDN.out.below HB5.out); have HR5 := Amk (Kd.R_below HR4.out HB5.out); have ck := (blk_cell hw.blk 0).trans (show _ = some (Value.int .i64 kind) from rfl); clear hw))
      go_roundg g
      case rel => exact ⟨i + 1, 0, by go_num, rfl, by omega, fun _ => rfl, fun h => by rw [if_neg (fun hd => HKE.out ⟨h, hd⟩)], HD5, HR5⟩
      case measure => omega
end Go.Proofs.YtednegmjjjdinaaGreatDoor.Ext
