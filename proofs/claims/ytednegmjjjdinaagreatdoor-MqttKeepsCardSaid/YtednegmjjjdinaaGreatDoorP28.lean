/- Texts of this claim's author, joined and pruned by a program of his (pack.py): Lq, Lr. -/
import Derived.Test.YtednegmjjjdinaaGreatDoorP0
import Derived.Test.YtednegmjjjdinaaGreatDoorP1
import Derived.Test.YtednegmjjjdinaaGreatDoorP2
import Derived.Test.YtednegmjjjdinaaGreatDoorP3
import Derived.Test.YtednegmjjjdinaaGreatDoorP4
import Derived.Test.YtednegmjjjdinaaGreatDoorP5
import Derived.Test.YtednegmjjjdinaaGreatDoorP7
import Derived.Test.YtednegmjjjdinaaGreatDoorP10
import Derived.Test.YtednegmjjjdinaaGreatDoorP11
import Derived.Test.YtednegmjjjdinaaGreatDoorP12
import Derived.Test.YtednegmjjjdinaaGreatDoorP13
import Derived.Test.YtednegmjjjdinaaGreatDoorP14
import Derived.Test.YtednegmjjjdinaaGreatDoorP15
import Derived.Test.YtednegmjjjdinaaGreatDoorP16
import Derived.Test.YtednegmjjjdinaaGreatDoorP17
import Derived.Test.YtednegmjjjdinaaGreatDoorP18
import Derived.Test.YtednegmjjjdinaaGreatDoorP21
import Derived.Test.YtednegmjjjdinaaGreatDoorP26
import Derived.Test.YtednegmjjjdinaaGreatDoorP27
set_option maxRecDepth 100000
set_option maxHeartbeats 4000000
open Go.Proofs.YtednegmjjjdinaaGreatDoorW.PrintWords renaming blk_cell → bqc, below_alloc → bal, below_then → bth, blk_lt → blt
open Go.Proofs.YtednegmjjjdinaaGreatDoorW.PrintWords.Aside0 renaming mk → Amk
namespace Go.Proofs.YtednegmjjjdinaaGreatDoor.Ext
open Go.RowKit Go.Proofs.YtednegmjjjdinaaGreatDoorW.PrintWords Go.Proofs.YtednegmjjjdinaaGreatDoorW.PrintLast Go.Proofs.YtednegmjjjdinaaGreatDoorW.PrintMore
set_option linter.unusedVariables false
set_option linter.unusedSimpArgs false
theorem byt_lower {base base' : Nat} {W : World} {v : Value} {l : List UInt8} (h : Byt base W v l) (hb : base' ≤ base) : Byt base' W v l := own_weaken h hb
theorem byt_wrote {base g t : Nat} {W W1 : World} {v : Value} {l : List UInt8} {cur cs : Array Value} (h : Byt base W v l) (hw : Wrote W W1 g cs t) (hb : W.heap[g]? = some (.cells cur 45 (0, 0))) : Byt base W1 v l := own_other h hw.grown (.inr fun e => own_ne h hb (by decide) e.symm)
def giveM (s : Mq) (topic : ByteArray) (body : List UInt8) (kept : Bool) : List UInt8 :=
 if s.down = true then [] else if s.up = false then [] else
 match M.slashB topic.data.toList with
 | none => []
 | some t => enc 3 (if kept = true then 1 else 0) (pubRest (if kept = true then 1 else 0) 0 t body)
def GQ (w : World) (s : Mq) (o : List UInt8) (e : Ending) (w' : World) : Prop := ∃ vW vC vB, e = .returned (.tuple #[.agg (mqCells s vW vC), vB]) ∧ kOp.R 64 w' w.heap.size (fun _ => True) vW s.will ∧ (Kd.int .i64).R 3 w' w.heap.size (fun _ => True) vC s.codes ∧ Byt w.heap.size w' vB o ∧ Below w.heap.size w w'
def pubP (f : Nat) (t b : List UInt8) : Pkt := ⟨3, f, 0, 0, [], b, 0, false, t, false, [], []⟩
theorem give_enc {f : Nat} (hf : f < 2) {t b : List UInt8} (ht : t.length ≤ 8192) (hb : b.length ≤ 1024) (w : World) : Calls Tryz.prog 76 #[.agg ((pubP f t b).pk (.slice none 0 0) (.slice none 0 0)).cells] w (EPost w (enc 3 f (pubRest f 0 t b)) 0) := by
 obtain ⟨n, hn⟩ := nextF_pub hf ht hb
 exact encode_ok (pubP f t b) 3 f ⟨rfl, rfl, by decide, by decide, by omega, by simp [pubP], by simp [pubP], by simp only [pubP, List.length_nil]; omega⟩ none none 0 0 (pubRest f 0 t b) w (fun W _ => rest_pub f 0 (by omega) (pubP f t b) _ _ W rfl rfl rfl (by simp only [pubP]; omega)) (by unfold pubRest; rw [if_neg (by omega)]; simp only [List.length_append, be16, List.length_cons, List.length_nil]; omega) ⟨rfl, Nat.zero_le _, fun h => absurd h (Nat.lt_irrefl 0)⟩ (Nat.le_refl _) ⟨rfl, Nat.zero_le _, fun h => absurd h (Nat.lt_irrefl 0)⟩ (Nat.le_refl _) n hn
theorem slash_len {l t : List UInt8} (h : M.slashB l = some t) : t.length = l.length := by
 unfold M.slashB at h
 split at h
 ·
  simp only [Option.some.injEq] at h; rw [← h, List.length_map]
 ·
  cases h
theorem give_calls (s : Mq) (AW : Option Addr) (cW : Nat) (AC : Option Addr) (cC : Nat) (a0 a1 a2 b4 : Int) (a3 b0 : ByteArray) (bl : List UInt8) (a4 a5 b3 : Bool) (A8 : Option Addr) (n8 c8 : Nat) (w : World) (hI : MqIn w s AW cW AC cC) (hG : WI w) (hz : b0.size ≤ 1048576) (hz1 : b0.size ≤ 8192) (hz2 : bl.length ≤ 1024) :
  Calls Tryz.prog 31 #[mqAgg s AW cW AC cC, .agg #[.int .i64 a0, .int .i64 a1, .int .i64 a2, .string a3, .bool a4, .bool a5, .string b0, .string ⟨bl.toArray⟩, .slice A8 n8 c8, .bool b3, .int .i64 b4]] w (GQ w s (giveM s b0 bl a5)) := by
 have HTL : Aside0 (∀ t, M.slashB b0.data.toList = some t → t.length ≤ 8192) := ⟨fun t h => by rw [slash_len h, Array.length_toList]; exact hz1⟩
 have HZ2 := Amk hz2
 clear hz1 hz2
 have HC : Aside0 (∀ W, Below w.heap.size w W → Calls Tryz.prog 67 #[mqAgg s AW cW AC cC] W fun e w' => ∃ vW vC, e = .returned (.agg (mqCells s vW vC)) ∧ kOp.R 64 w' W.heap.size (fun _ => True) vW s.will ∧ (Kd.int .i64).R 3 w' W.heap.size (fun _ => True) vC s.codes ∧ Below W.heap.size W w') := ⟨fun W hB => copied_calls s AW cW AC cC W (hI.below hB)⟩
 have HG := Amk hG
 have HSL : Aside0 (∀ W, WI W → Calls Tryz.prog 57 #[.string b0] W fun e w' => e = .returned (.tuple #[.string (U.out (M.slashB b0.data.toList)).1, .int .i64 (U.out (M.slashB b0.data.toList)).2]) ∧ Below W.heap.size W w') := ⟨fun W hW => U.slashes_calls b0 hz W hW⟩
 clear hI hG hz
 obtain ⟨so, hso⟩ : ∃ so, M.slashB b0.data.toList = so := ⟨_, rfl⟩
 rw [hso] at HSL HTL
 obtain ⟨gm, hgm⟩ : ∃ gm, giveM s b0 bl a5 = gm := ⟨_, rfl⟩
 rw [hgm]
 unfold giveM at hgm
 rw [hso] at hgm
 have HGM := Amk hgm
 clear hso hgm
 obtain ⟨rest, up, down, client, clean, will, codes⟩ := s
 simp only at HGM
 simp only [mqAgg, mqCells] at *
 generalize will.length = nW at *
 generalize codes.length = nC at *
 have HBX : Aside0 ((((w.alloc (.cells #[.string rest, .bool up, .bool down, .string client, .bool clean, .slice AW nW cW, .slice AC nC cC] 45)).alloc (.cells #[.int .i64 a0, .int .i64 a1, .int .i64 a2, .string a3, .bool a4, .bool a5, .string b0, .string ⟨bl.toArray⟩, .slice A8 n8 c8, .bool b3, .int .i64 b4] 66)).alloc (.cells #[.string ⟨#[]⟩, .bool false, .bool false, .string ⟨#[]⟩, .bool false, .slice none 0 0, .slice none 0 0] 45)).heap[w.heap.size]? = some (.cells #[.string rest, .bool up, .bool down, .string client, .bool clean, .slice AW nW cW, .slice AC nC cC] 45 (0, 0))) := ⟨blk_alloc (blk_alloc (heap_alloc_new w _) _) _⟩
 have HBO : Aside0 ((((w.alloc (.cells #[.string rest, .bool up, .bool down, .string client, .bool clean, .slice AW nW cW, .slice AC nC cC] 45)).alloc (.cells #[.int .i64 a0, .int .i64 a1, .int .i64 a2, .string a3, .bool a4, .bool a5, .string b0, .string ⟨bl.toArray⟩, .slice A8 n8 c8, .bool b3, .int .i64 b4] 66)).alloc (.cells #[.string ⟨#[]⟩, .bool false, .bool false, .string ⟨#[]⟩, .bool false, .slice none 0 0, .slice none 0 0] 45)).heap[w.heap.size + 1]? = some (.cells #[.int .i64 a0, .int .i64 a1, .int .i64 a2, .string a3, .bool a4, .bool a5, .string b0, .string ⟨bl.toArray⟩, .slice A8 n8 c8, .bool b3, .int .i64 b4] 66 (0, 0))) := ⟨by have := heap_alloc_new (w.alloc (.cells #[.string rest, .bool up, .bool down, .string client, .bool clean, .slice AW nW cW, .slice AC nC cC] 45)) (.cells #[.int .i64 a0, .int .i64 a1, .int .i64 a2, .string a3, .bool a4, .bool a5, .string b0, .string ⟨bl.toArray⟩, .slice A8 n8 c8, .bool b3, .int .i64 b4] 66); rw [World.size_alloc] at this; exact blk_alloc this _⟩
 have HBR : Aside0 ((((w.alloc (.cells #[.string rest, .bool up, .bool down, .string client, .bool clean, .slice AW nW cW, .slice AC nC cC] 45)).alloc (.cells #[.int .i64 a0, .int .i64 a1, .int .i64 a2, .string a3, .bool a4, .bool a5, .string b0, .string ⟨bl.toArray⟩, .slice A8 n8 c8, .bool b3, .int .i64 b4] 66)).alloc (.cells #[.string ⟨#[]⟩, .bool false, .bool false, .string ⟨#[]⟩, .bool false, .slice none 0 0, .slice none 0 0] 45)).heap[w.heap.size + 2]? = some (.cells #[.string ⟨#[]⟩, .bool false, .bool false, .string ⟨#[]⟩, .bool false, .slice none 0 0, .slice none 0 0] 45 (0, 0))) := ⟨by have := heap_alloc_new ((w.alloc (.cells #[.string rest, .bool up, .bool down, .string client, .bool clean, .slice AW nW cW, .slice AC nC cC] 45)).alloc (.cells #[.int .i64 a0, .int .i64 a1, .int .i64 a2, .string a3, .bool a4, .bool a5, .string b0, .string ⟨bl.toArray⟩, .slice A8 n8 c8, .bool b3, .int .i64 b4] 66)) (.cells #[.string ⟨#[]⟩, .bool false, .bool false, .string ⟨#[]⟩, .bool false, .slice none 0 0, .slice none 0 0] 45); rwa [World.size_alloc, World.size_alloc] at this⟩
 have HB0 : Aside0 (Below w.heap.size w (((w.alloc (.cells #[.string rest, .bool up, .bool down, .string client, .bool clean, .slice AW nW cW, .slice AC nC cC] 45)).alloc (.cells #[.int .i64 a0, .int .i64 a1, .int .i64 a2, .string a3, .bool a4, .bool a5, .string b0, .string ⟨bl.toArray⟩, .slice A8 n8 c8, .bool b3, .int .i64 b4] 66)).alloc (.cells #[.string ⟨#[]⟩, .bool false, .bool false, .string ⟨#[]⟩, .bool false, .slice none 0 0, .slice none 0 0] 45))) := ⟨bal (bal (bal (Below.refl _ _) _) _) _⟩
 go_enter Tryz.func31, Tryz.ntmps31
 go_upto_region 3 with (first
  | ((with_reducible refine gate_dst (N := 12) rfl ?_); refine wpList_load_row rfl 45 (.tmp 2) rfl w.heap.size rfl 45 #[.string rest, .bool up, .bool down, .string client, .bool clean, .slice AW nW cW, .slice AC nC cC] (0, 0) _ HBX.out Tryz.underlying45 rfl (by kernel_rfl) ?_)
  | (go_at_call 67; refine Calls.mono (HC.out _ HB0.out) ?_; rintro e1 w1 ⟨v1, v2, rfl, hr1, hr2, hb⟩; have HSZ0 : w.heap.size + 3 ≤ w1.heap.size := Nat.le_trans (by simp) hb.size; have HR1 := Amk (Kd.R_lower hr1 (base' := w.heap.size) (by simp; omega)); have HR2 := Amk (Kd.R_lower hr2 (base' := w.heap.size) (by simp; omega)); have HB1 : Aside0 (Below w.heap.size w w1) := ⟨bth HB0.out (by simp; omega) hb⟩; have HX1 := Amk ((hb.block _ (blt HBX.out)).trans HBX.out); have HO1 := Amk ((hb.block _ (blt HBO.out)).trans HBO.out); have HY1 := Amk ((hb.block _ (blt HBR.out)).trans HBR.out); have HSZ1 := Amk HSZ0; clear hr1 hr2 hb HSZ0; obtain ⟨A1, n1, c1, rfl, HN1⟩ := R_parts HR1.out; obtain ⟨A2, n2, c2, rfl, HN2⟩ := R_parts HR2.out)
  | ((with_reducible refine gate_store (t := 45) (p := 6) rfl ?_); refine wpList_store_blk 45 (.tmp 6) (.tmp 13) rfl rfl rfl (g := w1.heap.size) (e := 45) (.agg #[.string rest, .bool up, .bool down, .string client, .bool clean, .slice A1 n1 c1, .slice A2 n2 c2]) [.string rest, .bool up, .bool down, .string client, .bool clean, .slice A1 n1 c1, .slice A2 n2 c2] rfl rfl rfl (heap_alloc_new w1 _) (by kernel_rfl) rfl (by simp [mqCells, Value.oneCell']) ?_; intro W1 hw; have hsz := HSZ1.out; have HS2 := Amk hw.blk; have HX2 := Amk (hw.blk_ (blk_alloc HX1.out _) (by omega)); have HO2 := Amk (hw.blk_ (blk_alloc HO1.out _) (by omega)); have HY2 := Amk (hw.blk_ (blk_alloc HY1.out _) (by omega)); have HB2 := Amk (hw.below (bal HB1.out _) (Nat.le_trans HB1.out.size (by simp)) HB1.out.size); have HRW := Amk (R_wrote (Kd.R_below HR1.out (bal (Below.refl _ _) _)) hw (heap_alloc_new w1 _) (by decide)); have HRC := Amk (R_wrote (Kd.R_below HR2.out (bal (Below.refl _ _) _)) hw (heap_alloc_new w1 _) (by decide)); have q6 := (bqc HO2.out 6).trans (show _ = some (Value.string b0) from rfl); clear hsz; clear hw)
  | (go_at_call 57; refine Calls.mono (HSL.out _ (HG.out.below HB2.out)) ?_; rintro e2 w2 ⟨rfl, hb⟩; have HB3 := Amk (bth HB2.out HB2.out.size hb); have HS3 := Amk ((hb.block _ (blt HS2.out)).trans HS2.out); have HX3 := Amk ((hb.block _ (blt HX2.out)).trans HX2.out); have HO3 := Amk ((hb.block _ (blt HO2.out)).trans HO2.out); have HY3 := Amk ((hb.block _ (blt HY2.out)).trans HY2.out); have HRW3 := Amk (Kd.R_below HRW.out hb); have HRC3 := Amk (Kd.R_below HRC.out hb); clear hb))
 have cd := (bqc HX3.out 2).trans (show _ = some (Value.bool down) from rfl)
 have cu := (bqc HX3.out 1).trans (show _ = some (Value.bool up) from rfl)
 have cb := (bqc HO3.out 7).trans (show _ = some (Value.string ⟨bl.toArray⟩) from rfl)
 have ck := (bqc HO3.out 5).trans (show _ = some (Value.bool a5) from rfl)
 clear HX1 HO1 HY1 HS2 HX2 HO2 HY2 HB1 HB2 HR1 HR2 HRW HRC HBX HBO HBR HB0 HC HSL q6
 cases down with
 | true =>
  have hgm : [] = gm := by have := HGM.out; rwa [if_pos rfl] at this
  go_wp2_with (first
   | ((with_reducible refine gate_dst (N := 32) rfl ?_); refine wpList_load_row rfl 45 (.tmp 6) rfl w1.heap.size rfl 45 #[.string rest, .bool up, .bool true, .string client, .bool clean, .slice A1 n1 c1, .slice A2 n2 c2] (0, 0) _ HS3.out Tryz.underlying45 rfl (by kernel_rfl) ?_)
   | ((with_reducible refine gate_store (t := 45) (p := 4) rfl ?_); refine wpList_store_blk 45 (.tmp 4) (.tmp 32) rfl rfl rfl (g := (w.heap.size + 2)) (e := 45) (.agg #[.string rest, .bool up, .bool true, .string client, .bool clean, .slice A1 n1 c1, .slice A2 n2 c2]) [.string rest, .bool up, .bool true, .string client, .bool clean, .slice A1 n1 c1, .slice A2 n2 c2] rfl rfl rfl HY3.out (by kernel_rfl) rfl (by simp [mqCells, Value.oneCell']) ?_; intro W6 hw; have HW6 := Amk hw; clear hw))
  refine bodyPost_ret (give_results rfl rfl HW6.out.blk rfl) rfl ?_
  exact ⟨_, _, _, rfl, R_wrote HRW3.out HW6.out HY3.out (by decide), R_wrote HRC3.out HW6.out HY3.out (by decide), hgm ▸ Byt.nil _ _, HW6.out.below HB3.out HB3.out.size (by omega)⟩
 | false =>
  cases up with
  | false =>
   have hgm : [] = gm := by have := HGM.out; rwa [if_neg (by simp), if_pos rfl] at this
   go_wp2_with (first
    | ((with_reducible refine gate_dst (N := 32) rfl ?_); refine wpList_load_row rfl 45 (.tmp 6) rfl w1.heap.size rfl 45 #[.string rest, .bool false, .bool false, .string client, .bool clean, .slice A1 n1 c1, .slice A2 n2 c2] (0, 0) _ HS3.out Tryz.underlying45 rfl (by kernel_rfl) ?_)
    | ((with_reducible refine gate_store (t := 45) (p := 4) rfl ?_); refine wpList_store_blk 45 (.tmp 4) (.tmp 32) rfl rfl rfl (g := (w.heap.size + 2)) (e := 45) (.agg #[.string rest, .bool false, .bool false, .string client, .bool clean, .slice A1 n1 c1, .slice A2 n2 c2]) [.string rest, .bool false, .bool false, .string client, .bool clean, .slice A1 n1 c1, .slice A2 n2 c2] rfl rfl rfl HY3.out (by kernel_rfl) rfl (by simp [mqCells, Value.oneCell']) ?_; intro W6 hw; have HW6 := Amk hw; clear hw))
   refine bodyPost_ret (give_results rfl rfl HW6.out.blk rfl) rfl ?_
   exact ⟨_, _, _, rfl, R_wrote HRW3.out HW6.out HY3.out (by decide), R_wrote HRC3.out HW6.out HY3.out (by decide), hgm ▸ Byt.nil _ _, HW6.out.below HB3.out HB3.out.size (by omega)⟩
  | true =>
   cases so with
   | none =>
    have hgm : [] = gm := by have := HGM.out; rwa [if_neg (by simp), if_neg (by simp)] at this
    simp only [U.out] at *
    go_wp2_with (first
     | ((with_reducible refine gate_dst (N := 32) rfl ?_); refine wpList_load_row rfl 45 (.tmp 6) rfl w1.heap.size rfl 45 #[.string rest, .bool true, .bool false, .string client, .bool clean, .slice A1 n1 c1, .slice A2 n2 c2] (0, 0) _ HS3.out Tryz.underlying45 rfl (by kernel_rfl) ?_)
     | ((with_reducible refine gate_store (t := 45) (p := 4) rfl ?_); refine wpList_store_blk 45 (.tmp 4) (.tmp 32) rfl rfl rfl (g := (w.heap.size + 2)) (e := 45) (.agg #[.string rest, .bool true, .bool false, .string client, .bool clean, .slice A1 n1 c1, .slice A2 n2 c2]) [.string rest, .bool true, .bool false, .string client, .bool clean, .slice A1 n1 c1, .slice A2 n2 c2] rfl rfl rfl HY3.out (by kernel_rfl) rfl (by simp [mqCells, Value.oneCell']) ?_; intro W6 hw; have HW6 := Amk hw; clear hw))
    refine bodyPost_ret (give_results rfl rfl HW6.out.blk rfl) rfl ?_
    exact ⟨_, _, _, rfl, R_wrote HRW3.out HW6.out HY3.out (by decide), R_wrote HRC3.out HW6.out HY3.out (by decide), hgm ▸ Byt.nil _ _, HW6.out.below HB3.out HB3.out.size (by omega)⟩
   | some tl =>
    have hgm : enc 3 (if a5 = true then 1 else 0) (pubRest (if a5 = true then 1 else 0) 0 tl bl) = gm := by have := HGM.out; rwa [if_neg (by simp), if_neg (by simp)] at this
    simp only [U.out] at *
    have HTL2 := Amk (HTL.out tl rfl)
    go_upto_region 6 with ((with_reducible refine gate_store (t := 86) (p := 9) rfl ?_); refine wpList_store_blk 86 (.tmp 9) (.tmp 37) rfl rfl rfl (g := w2.heap.size) (e := 86) (.agg #[.int .i64 3, .int .i64 0, .int .i64 0, .int .i64 0, .string ⟨#[]⟩, .string ⟨bl.toArray⟩, .int .i64 0, .bool false, .string ⟨tl.toArray⟩, .bool false, .slice none 0 0, .slice none 0 0]) [.int .i64 3, .int .i64 0, .int .i64 0, .int .i64 0, .string ⟨#[]⟩, .string ⟨bl.toArray⟩, .int .i64 0, .bool false, .string ⟨tl.toArray⟩, .bool false, .slice none 0 0, .slice none 0 0] rfl rfl rfl (heap_alloc_new w2 _) (by kernel_rfl) rfl (by simp [mqCells, Value.oneCell']) ?_; intro W3 hw; have HB4 := Amk (hw.below (bal (Below.refl w2.heap.size w2) _) (by simp) (Nat.le_refl _)); have HP4 := Amk hw.blk; have ck := (bqc ((HB4.out.block _ (blt HO3.out)).trans HO3.out) 5).trans (show _ = some (Value.bool a5) from rfl); have zp := blk_frozen hw.blk 1; have up1 := (bqc hw.blk 1).trans (show _ = some (Value.int .i64 0) from rfl); clear hw)
    have HS4 := Amk ((HB4.out.block _ (blt HS3.out)).trans HS3.out)
    have HY4 := Amk ((HB4.out.block _ (blt HY3.out)).trans HY3.out)
    have HRW4 := Amk (Kd.R_below HRW3.out HB4.out)
    have HRC4 := Amk (Kd.R_below HRC3.out HB4.out)
    have HB5 := Amk (bth HB3.out HB3.out.size HB4.out)
    have HG2 := Amk HB3.out.size
    generalize w2.heap.size = pb at *
    cases a5 with
    | false =>
     have HGB : Aside0 (gm = enc 3 0 (pubRest 0 0 tl bl)) := ⟨by rw [← hgm]; rfl⟩
     have HP5 := HP4
     have HS5 := HS4
     have HY5 := HY4
     have HRW5 := HRW4
     have HRC5 := HRC4
     have HB6 := HB5
     go_wp2_with (first
      | ((with_reducible refine gate_dst (N := 42) rfl ?_); refine wpList_load_row rfl 86 (.tmp 9) rfl pb rfl 86 #[.int .i64 3, .int .i64 0, .int .i64 0, .int .i64 0, .string ⟨#[]⟩, .string ⟨bl.toArray⟩, .int .i64 0, .bool false, .string ⟨tl.toArray⟩, .bool false, .slice none 0 0, .slice none 0 0] (0, 0) _ HP5.out Tryz.underlying86 rfl (by kernel_rfl) ?_)
      | (go_at_call 76; refine Calls.mono (give_enc (f := 0) (by decide) HTL2.out HZ2.out _) ?_; rintro e7 w7 ⟨vB, rfl, hby, hb⟩; have HBY := Amk hby; have HS7 := Amk ((hb.block _ (blt HS5.out)).trans HS5.out); have HY7 := Amk ((hb.block _ (blt HY5.out)).trans HY5.out); have HRW7 := Amk (Kd.R_below HRW5.out hb); have HRC7 := Amk (Kd.R_below HRC5.out hb); have HB7 := Amk (bth HB6.out HB6.out.size hb); clear hby hb; obtain ⟨AB, nB, cB, rfl, _⟩ := HBY.out.slice')
      | ((with_reducible refine gate_dst (N := 46) rfl ?_); refine wpList_load_row rfl 45 (.tmp 6) rfl w1.heap.size rfl 45 #[.string rest, .bool true, .bool false, .string client, .bool clean, .slice A1 n1 c1, .slice A2 n2 c2] (0, 0) _ HS7.out Tryz.underlying45 rfl (by kernel_rfl) ?_)
      | ((with_reducible refine gate_store (t := 45) (p := 4) rfl ?_); refine wpList_store_blk 45 (.tmp 4) (.tmp 46) rfl rfl rfl (g := (w.heap.size + 2)) (e := 45) (.agg #[.string rest, .bool true, .bool false, .string client, .bool clean, .slice A1 n1 c1, .slice A2 n2 c2]) [.string rest, .bool true, .bool false, .string client, .bool clean, .slice A1 n1 c1, .slice A2 n2 c2] rfl rfl rfl HY7.out (by kernel_rfl) rfl (by simp [mqCells, Value.oneCell']) ?_; intro W8 hw; have HW8 := Amk hw; clear hw))
     refine bodyPost_ret (give_results rfl rfl HW8.out.blk rfl) rfl ?_
     exact ⟨_, _, _, rfl, R_wrote HRW7.out HW8.out HY7.out (by decide), R_wrote HRC7.out HW8.out HY7.out (by decide), HGB.out ▸ byt_wrote (byt_lower HBY.out HB6.out.size) HW8.out HY7.out, HW8.out.below HB7.out HB7.out.size (by omega)⟩
    | true =>
     have HGB : Aside0 (gm = enc 3 1 (pubRest 1 0 tl bl)) := ⟨by rw [← hgm]; rfl⟩
     have HP5 : Aside0 ((W3.setCell ⟨pb, 1, none⟩ (.int .i64 1)).heap[pb]? = some (.cells #[.int .i64 3, .int .i64 1, .int .i64 0, .int .i64 0, .string ⟨#[]⟩, .string ⟨bl.toArray⟩, .int .i64 0, .bool false, .string ⟨tl.toArray⟩, .bool false, .slice none 0 0, .slice none 0 0] 86 (0, 0))) := ⟨by simpa using blk_set HP4.out 1 (.int .i64 1)⟩
     have HPN : Aside0 (w1.heap.size ≠ pb ∧ w.heap.size + 2 ≠ pb) := ⟨blk_ne HS4.out HP4.out (by decide), blk_ne HY4.out HP4.out (by decide)⟩
     have HS5 := Amk (blk_far HS4.out (p := ⟨pb, 1, none⟩) HPN.out.1 (.int .i64 1))
     have HY5 := Amk (blk_far HY4.out (p := ⟨pb, 1, none⟩) HPN.out.2 (.int .i64 1))
     have HRW5 := Amk (Kd.R_set HRW4.out HP4.out (by decide) 1 (.int .i64 1))
     have HRC5 := Amk (Kd.R_set HRC4.out HP4.out (by decide) 1 (.int .i64 1))
     have HB6 : Aside0 (Below w.heap.size w (W3.setCell ⟨pb, 1, none⟩ (.int .i64 1))) := ⟨below_set HB5.out HG2.out⟩
     go_wp2_with (first
      | ((with_reducible refine gate_dst (N := 42) rfl ?_); refine wpList_load_row rfl 86 (.tmp 9) rfl pb rfl 86 #[.int .i64 3, .int .i64 1, .int .i64 0, .int .i64 0, .string ⟨#[]⟩, .string ⟨bl.toArray⟩, .int .i64 0, .bool false, .string ⟨tl.toArray⟩, .bool false, .slice none 0 0, .slice none 0 0] (0, 0) _ HP5.out Tryz.underlying86 rfl (by kernel_rfl) ?_)
      | (go_at_call 76; refine Calls.mono (give_enc (f := 1) (by decide) HTL2.out HZ2.out _) ?_; rintro e7 w7 ⟨vB, rfl, hby, hb⟩; have HBY := Amk hby; have HS7 := Amk ((hb.block _ (blt HS5.out)).trans HS5.out); have HY7 := Amk ((hb.block _ (blt HY5.out)).trans HY5.out); have HRW7 := Amk (Kd.R_below HRW5.out hb); have HRC7 := Amk (Kd.R_below HRC5.out hb); have HB7 := Amk (bth HB6.out HB6.out.size hb); clear hby hb; obtain ⟨AB, nB, cB, rfl, _⟩ := HBY.out.slice')
      | ((with_reducible refine gate_dst (N := 46) rfl ?_); refine wpList_load_row rfl 45 (.tmp 6) rfl w1.heap.size rfl 45 #[.string rest, .bool true, .bool false, .string client, .bool clean, .slice A1 n1 c1, .slice A2 n2 c2] (0, 0) _ HS7.out Tryz.underlying45 rfl (by kernel_rfl) ?_)
      | ((with_reducible refine gate_store (t := 45) (p := 4) rfl ?_); refine wpList_store_blk 45 (.tmp 4) (.tmp 46) rfl rfl rfl (g := (w.heap.size + 2)) (e := 45) (.agg #[.string rest, .bool true, .bool false, .string client, .bool clean, .slice A1 n1 c1, .slice A2 n2 c2]) [.string rest, .bool true, .bool false, .string client, .bool clean, .slice A1 n1 c1, .slice A2 n2 c2] rfl rfl rfl HY7.out (by kernel_rfl) rfl (by simp [mqCells, Value.oneCell']) ?_; intro W8 hw; have HW8 := Amk hw; clear hw))
     refine bodyPost_ret (give_results rfl rfl HW8.out.blk rfl) rfl ?_
     exact ⟨_, _, _, rfl, R_wrote HRW7.out HW8.out HY7.out (by decide), R_wrote HRC7.out HW8.out HY7.out (by decide), HGB.out ▸ byt_wrote (byt_lower HBY.out HB6.out.size) HW8.out HY7.out, HW8.out.below HB7.out HB7.out.size (by omega)⟩
theorem size_wrAt : ∀ (seg : List Value) (cur : Array Value) (o : Nat), (wrAt cur o seg).size = cur.size
 | [], _, _ => rfl
 | v :: r, cur, o => by rw [wrAt, size_wrAt r]; simp
structure Kp (w W0 W : World) (b2 : Nat) : Prop where
 late : ∀ k, b2 ≤ k → k < W0.heap.size → W.heap[k]? = W0.heap[k]?
 shape : ∀ (k : Nat) (cs : Array Value) (t : Nat), W0.heap[k]? = some (.cells cs t (0, 0)) → ∃ cs', W.heap[k]? = some (.cells cs' t (0, 0)) ∧ cs'.size = cs.size
 kept : ∀ (k : Nat) (cs : Array Value) (t : Nat), t ≠ 3 → t ≠ 64 → W0.heap[k]? = some (.cells cs t (0, 0)) → W.heap[k]? = some (.cells cs t (0, 0))
 bel : Below w.heap.size w W
 sz : W0.heap.size ≤ W.heap.size
namespace Kp
variable {w W0 W W1 : World} {b2 : Nat}
theorem refl (h : Below w.heap.size w W) : Kp w W W b2 := ⟨fun _ _ _ => rfl, fun _ cs _ h => ⟨cs, h, rfl⟩, fun _ _ _ _ _ h => h, h, Nat.le_refl _⟩
theorem below (h : Kp w W0 W b2) (hb : Below W.heap.size W W1) : Kp w W0 W1 b2 :=
 ⟨fun k h1 h2 => (hb.block k (Nat.lt_of_lt_of_le h2 h.sz)).trans (h.late k h1 h2), fun k cs t hc => by
  obtain ⟨cs', h1, h2⟩ := h.shape k cs t hc
  exact ⟨cs', (hb.block k (blt h1)).trans h1, h2⟩, fun k cs t t3 t64 hc => (hb.block k (blt (h.kept k cs t t3 t64 hc))).trans (h.kept k cs t t3 t64 hc), bth h.bel h.bel.size hb, Nat.le_trans h.sz hb.size⟩
theorem setCells (h : Kp w W0 W b2) {k t : Nat} {cs : Array Value} (hk : k < b2) (hw : w.heap.size ≤ k) (hb : W0.heap[k]? = some (.cells cs t (0, 0))) (ht : t = 3 ∨ t = 64) (o : Nat) (vs : List Value) : Kp w W0 (W.setCells k o vs) b2 :=
 ⟨fun k' h1 h2 => (setCells_far' k vs o W k' (by omega)).trans (h.late k' h1 h2), fun k' cs' t' hc => by
  obtain ⟨ds, h1, h2⟩ := h.shape k' cs' t' hc
  by_cases e : k' = k
  ·
   subst e; exact ⟨_, setCells_at vs o W ds h1, by rw [size_wrAt, h2]⟩
  ·
   exact ⟨ds, (setCells_far' k vs o W k' e).trans h1, h2⟩, fun k' cs' t' t3 t64 hc => by
  have e : k' ≠ k := fun e => by subst e; rw [hc] at hb; simp only [Option.some.injEq, Obj.cells.injEq] at hb; obtain ⟨_, e2, _⟩ := hb; exact ht.elim (fun q => t3 (e2.trans q)) (fun q => t64 (e2.trans q))
  exact (setCells_far' k vs o W k' e).trans (h.kept k' cs' t' t3 t64 hc), h.bel.grown (setCells_grown k vs o W) h.bel.size (fun j hj => by cases hj; exact hw), Nat.le_trans h.sz (setCells_grown k vs o W).size⟩
theorem there (h : Kp w W0 W b2) {k t : Nat} {cs : Array Value} (hb : W0.heap[k]? = some (.cells cs t (0, 0))) (o n : Nat) (hn : o + n ≤ cs.size) : W.there k o n := by
 obtain ⟨ds, h1, h2⟩ := h.shape k cs t hb
 exact there_blk h1 o n (by omega)
theorem row {α : Type} {d : Kd α} {e : Nat} {v : Value} {xs : List α} (h : Kp w W0 W b2) (hr : d.R e W0 b2 (fun _ => True) v xs) : d.R e W b2 (fun _ => True) v xs :=
 Kd.R_mono (Kd.R_step (Kd.R_bound hr) (fun k hk hlt => h.late k hk.2.1 hlt)) (fun _ _ => trivial)
end Kp
theorem Hd.lower {w0 w1 W : World} {b : Nat} {s : Mq} {l : List BAct} {v1 v2 v3 : Value} (h : Hd w1 W b s l v1 v2 v3) (hb : w0.heap.size ≤ w1.heap.size) : Hd w0 W b s l v1 v2 v3 := ⟨h.blk, Kd.R_lower h.will hb, Kd.R_lower h.codes hb, Kd.R_lower h.acts hb⟩
theorem Hd.kp {w w1 W0 W : World} {b : Nat} {s : Mq} {l : List BAct} {v1 v2 v3 : Value} (h : Hd w1 W0 b s l v1 v2 v3) (hk : Kp w W0 W w1.heap.size) (hb : w1.heap.size ≤ b) : Hd w1 W b s l v1 v2 v3 := ⟨(hk.late b hb (blt h.blk)).trans h.blk, hk.row h.will, hk.row h.codes, hk.row h.acts⟩
theorem Hd.bare {w1 W : World} {b : Nat} {s : Mq} {l : List BAct} {v1 v2 v3 : Value} (h : Hd w1 W b s l v1 v2 v3) : Hd w1 W b s [] v1 v2 (.slice none 0 0) := ⟨h.blk, h.will, h.codes, Kd.R_nil _ _ _ _ _⟩
theorem range_mid {W : World} {b t : Nat} {cs : Array Value} {ds : List Value} (h : W.heap[b]? = some (.cells cs t (0, 0))) (k : Nat) (hd : (cs.toList.drop k).take ds.length = ds) : W.rangeAt b k ds := fun q u hu => by
 have h := RowAt.mid h k hd q u hu
 rwa [Addr.add_mid] at h
theorem R_room {α : Type} {d : Kd α} {e base : Nat} {ok : Nat → Prop} {W : World} {A : Option Addr} {n c : Nat} {xs : List α} (h : d.R e W base ok (.slice A n c) xs) (z : α) (i : Nat) (hi : i < n) (hs : 0 < d.sz) : ∃ g cells, A = some ⟨g, 0, none⟩ ∧ W.heap[g]? = some (.cells cells e (0, 0)) ∧ i * d.sz + d.sz ≤ cells.size ∧ base ≤ g ∧ g < W.heap.size := by
 have hn := (Kd.R_reads' h).1
 obtain ⟨g, cap, hv, hb, hl, cells, hc⟩ := Kd.R_form h (by omega)
 injection hv with hA _ _
 subst hA
 obtain ⟨cs, hcl, _, hcc, _⟩ := Kd.R_elem h z (i : Int) (by omega) (by omega)
 have h1 := hcc (d.sz - 1) (cs[d.sz - 1]'(by omega)) (by rw [List.getElem?_eq_getElem])
 rw [bqc hc, Int.toNat_natCast] at h1
 have := (Array.getElem?_eq_some_iff.1 h1).1
 exact ⟨g, cells, rfl, hc, by omega, hb, hl⟩
theorem keeps_calls (conn : Int) (hc0 : -9223372036854775808 ≤ conn) (hc1 : conn ≤ 9223372036854775807) (AH : Option Addr) (nH cH : Nat) (AA : Option Addr) (nA cA : Nat) (AO : Option Addr) (nO cO : Nat) (chunks : List ByteArray) (answers : List Int) (outs : List K.S66) (w : World) (hG : WI w)
  (hC : Kd.string.C w AH nH chunks) (hA : (Kd.int .i64).C w AA nA answers) (hO : K.k66.C w AO nO outs) (hnH : nH ≤ 140737488355328) (hnA : nA ≤ 140737488355328) (hnO : nO ≤ 140737488355328) (hcs : ∀ c ∈ chunks, c.size ≤ 140737488355328)
  (hos : ∀ o ∈ outs, o.f6.f2.length ≤ 140737488355328 ∧ ∀ x ∈ o.f6.f2, x.f0.size ≤ 140737488355328) :
  Calls Tryz.prog 7 #[.int .i64 conn, .agg #[.slice AH nH cH, .slice AA nA cA, .slice AO nO cO]] w fun e w' => e = .returned (.bool true) ∧ Below w.heap.size w w' := by
 have HG := Amk hG
 have HC := Amk hC
 have HA := Amk hA
 have HO := Amk hO
 have HNB := Amk (And.intro hnH (And.intro hnA hnO))
 have HCS := Amk hcs
 have HOS := Amk hos
 have HNH : Aside0 (chunks.length = nH) := ⟨hC.1⟩
 have HB0 := Amk (bal (Below.refl w.heap.size w) (.cells #[.slice AH nH cH, .slice AA nA cA, .slice AO nO cO] 41))
 have HBX := Amk (heap_alloc_new w (.cells #[.slice AH nH cH, .slice AA nA cA, .slice AO nO cO] 41))
 clear hG hC hA hO hnH hnA hnO hcs hos
 go_enter Tryz.func7, Tryz.ntmps7
 go_upto_region 3 with (go_at_call 21; refine Calls.mono (wakes_calls _ (HG.out.below HB0.out)) ?_; rintro e1 w1 ⟨rfl, hb⟩; have HB1 := Amk (bth HB0.out HB0.out.size hb); have HX1 := Amk ((hb.block _ (blt HBX.out)).trans HBX.out); clear hb)
 go_cut [35] (fun s35 wx => ∃ b35, s35 = .bool b35 ∧ Aside0 (b35 = false → Light chunks nA outs ∧ 0 ≤ conn ∧ conn < 8) ∧ Aside0 (Below w.heap.size w wx) ∧ Aside0 (wx.heap[w.heap.size]? = some (.cells #[.slice AH nH cH, .slice AA nA cA, .slice AO nO cO] 41 (0, 0))))
 case first =>
  have hv : ∃ b1 b2 : Bool, decide (conn < 0) = b1 ∧ decide (8 ≤ conn) = b2 ∧ Aside0 (b1 = false → b2 = false → 0 ≤ conn ∧ conn < 8) := by
   refine ⟨_, _, rfl, rfl, ⟨fun h1 h2 => ?_⟩⟩
   have h1 := of_decide_eq_false h1
   have h2 := of_decide_eq_false h2
   omega
  obtain ⟨b1, b2, e1, e2, HV⟩ := hv
  go_wp2_with (first
   | ((with_reducible refine gate_dst (N := 26) rfl ?_); refine wpList_load_row rfl 41 (.tmp 3) rfl w.heap.size rfl 41 #[.slice AH nH cH, .slice AA nA cA, .slice AO nO cO] (0, 0) _ HX1.out Tryz.underlying41 rfl (by kernel_rfl) ?_)
   | (go_at_call 22; refine Calls.mono (heavy_calls AH nH cH AA nA cA AO nO cO chunks outs _ (Kd.C_below HC.out HB1.out) (Kd.C_below HO.out HB1.out) HNB.out.1 HNB.out.2.1 HNB.out.2.2 HCS.out HOS.out) ?_; rintro e2 w2 ⟨b0, rfl, hl, hb⟩; have HL := Amk hl; have HB2 := Amk (bth HB1.out HB1.out.size hb); have HX2 := Amk ((hb.block _ (blt HX1.out)).trans HX1.out); clear hb hl; cases b0 <;> cases b1 <;> cases b2))
  all_goals go_meet
  all_goals first
   | exact ⟨_, rfl, ⟨fun h => Bool.noConfusion h⟩, HB2, HX2⟩
   | exact ⟨_, rfl, ⟨fun _ => ⟨HL.out (by trivial), HV.out (by trivial) (by trivial)⟩⟩, HB2, HX2⟩
 case rest =>
  obtain ⟨b35, rfl, HV, HB2, HX2⟩ := hcut
  clear HB1 HX1 HB0 HBX
  cases b35 with
  | true =>
   go_wp2_with fail
   go_ret
   exact ⟨rfl, HB2.out⟩
  | false =>
   obtain ⟨HLt, hc2, hc3⟩ := HV.out rfl
   have HLT := Amk HLt
   have hHb : nH ≤ 16384 := by have := HLt.bytes; have := HNH.out; omega
   have hAb : nA ≤ 16384 := by have := HLt.bytes; omega
   have hZb : (lists chunks).flatten.length ≤ 16384 := by have := HLt.bytes; unfold bytesIn at this; omega
   obtain ⟨sF, nF, lF, hH⟩ := Heard.run (ansF answers) conn (lists chunks) newMq 0 good_new2
   have HGF := Amk (hH.ok good_new2).1
   have HRZ : Aside0 (sF.rest.size ≤ 16384) := ⟨by
    have := (hH.ok good_new2).2.2
    have e : newMq.rest.size = 0 := rfl
    omega⟩
   have HNO : Aside0 (outs.length = nO) := ⟨HO.out.1⟩
   have HCN := Amk (And.intro hc2 (show conn ≤ 9223372036854775807 by omega))
   have HHC : Aside0 (∀ W, Below w.heap.size w W → Calls Tryz.prog 23 #[.int .i64 conn, .slice AH nH cH, .agg #[.slice AH nH cH, .slice AA nA cA, .slice AO nO cO]] W (TQ W (sF, lF))) := ⟨fun W hB => heard_calls conn hc2 (by omega) chunks answers AH nH cH (.slice AH nH cH) (.slice AO nO cO) AA nA cA W (HG.out.below hB) (Kd.C_below HC.out hB) (Kd.C_below HA.out hB) hHb hAb sF nF lF hH hZb⟩
   have q0 := (bqc HX2.out 0).trans (show _ = some (Value.slice AH nH cH) from rfl)
   clear hH HLt hHb hAb hZb hc2 hc3 HV HCS HOS hc0 hc1 HA HC HNH HNB
   go_upto_region 6 with (first
    | ((with_reducible refine gate_dst (N := 40) rfl ?_); refine wpList_load_row rfl 41 (.tmp 3) rfl w.heap.size rfl 41 #[.slice AH nH cH, .slice AA nA cA, .slice AO nO cO] (0, 0) _ HX2.out Tryz.underlying41 rfl (by kernel_rfl) ?_)
    | (go_at_call 23; refine Calls.mono (HHC.out _ HB2.out) ?_; rintro e3 w3 ⟨v1, v2, v3, rfl, hr1, hr2, hr3, hb⟩; have HB3 := Amk (bth HB2.out HB2.out.size hb); have HX3 := Amk ((hb.block _ (blt HX2.out)).trans HX2.out); have HR1 := Amk (Kd.R_lower hr1 HB2.out.size); have HR2 := Amk (Kd.R_lower hr2 HB2.out.size); obtain ⟨AW, nW, cW, rfl, _⟩ := R_parts HR1.out; obtain ⟨AC, nC, cC, rfl, _⟩ := R_parts HR2.out; obtain ⟨AL, nL, cL, rfl, _⟩ := R_parts hr3; clear hr1 hr2 hr3 hb)
    | ((with_reducible refine gate_store (t := 45) (p := 5) rfl ?_); refine wpList_store_blk 45 (.tmp 5) (.tmp 42) rfl rfl rfl (g := w3.heap.size) (e := 45) (.agg (mqCells sF (.slice AW nW cW) (.slice AC nC cC))) (mqCells sF (.slice AW nW cW) (.slice AC nC cC)).toList rfl rfl rfl (heap_alloc_new w3 _) (by kernel_rfl) rfl (by simp [mqCells, Value.oneCell']) ?_; intro W3 hw; have HB4 := Amk (hw.below (bal (Below.refl w3.heap.size w3) _) (by simp) (Nat.le_refl _)); have HDN : Aside0 (Dn w W3 w.heap.size w3.heap.size #[.slice AH nH cH, .slice AA nA cA, .slice AO nO cO] sF (.slice AW nW cW) (.slice AC nC cC)) := ⟨⟨hw.blk, (HB4.out.block _ (blt HX3.out)).trans HX3.out, Kd.R_below HR1.out HB4.out, Kd.R_below HR2.out HB4.out, bth HB3.out HB3.out.size HB4.out, HB3.out.size, Nat.le_refl _⟩⟩; have q2 := (bqc HDN.out.cblk 2).trans (show _ = some (Value.slice AO nO cO) from rfl); clear hw))
   generalize w3.heap.size = sb at *
   clear HR1 HR2 HB3 HX3 HB4 HB2 HX2 q0 HHC
   go_wp2_with fail
   go_loopg [47] nO (fun kq v47 wx => ∃ (i : Nat) (vW vC : Value), v47 = .int .i64 (i : Nat) ∧ i + kq = nO ∧ Aside0 (Dn w wx w.heap.size sb #[.slice AH nH cH, .slice AA nA cA, .slice AO nO cO] sF vW vC))
   case atStart => exact ⟨0, _, _, rfl, by omega, HDN⟩
   case round =>
    clear HDN q2
    obtain ⟨i, vW, vC, rfl, hi, HD1⟩ := hrel
    obtain ⟨AW, nW, cW, rfl, _⟩ := R_parts HD1.out.will
    obtain ⟨AC, nC, cC, rfl, _⟩ := R_parts HD1.out.codes
    cases gk with
    | succ g =>
     have hlt : decide ((i : Int) < (nO : Int)) = true := decide_eq_true (by omega)
     have hlt2 : decide (i < nO) = true := decide_eq_true (by omega)
     have hil : i < outs.length := by have := HNO.out; omega
     have hib : i ≤ 140737488355328 := by have := HLT.out.few; have := HNO.out; omega
     obtain ⟨ad, cs, rfl, hcl, hK, hcc⟩ := Kd.C_get (Kd.C_below HO.out HD1.out.bel) K.z66 (i : Int) (by omega) (by omega)
     simp only [Int.toNat_natCast] at hcc hK
     obtain ⟨x, hx⟩ : ∃ x, outs.getD i K.z66 = x := ⟨_, rfl⟩
     have hxi : outs[i] = x := by rw [← hx]; simp [hil]
     rw [hx] at hK
     have hxm := HLT.out.each x (by rw [← hxi]; exact List.getElem_mem hil)
     have HXM := Amk (And.intro hxm.size hxm.2)
     obtain ⟨A8, c8, rfl, l8, g8⟩ := K.k66_open hK
     obtain ⟨a0, a1, a2, a3, a4, a5, ⟨b0, ⟨⟨bl⟩⟩, b2, b3, b4⟩⟩ := x
     simp only at *
     obtain ⟨n8, hn8⟩ : ∃ n8, b2.length = n8 := ⟨_, rfl⟩
     rw [hn8] at hcc
     have HRG : Aside0 (∀ q u, [.int .i64 a0, .int .i64 a1, .int .i64 a2, .string a3, .bool a4, .bool a5, .string b0, .string ⟨bl.toArray⟩, .slice A8 n8 c8, .bool b3, .int .i64 b4][q]? = some u → wr.cell? ((ad.add (i * 11)).add q) = some u) := ⟨fun q u hu => by rw [add_add]; exact hcc q u hu⟩
     clear hcc hK hx hcl g8 l8 hxi hn8 hxm
     have HT31 : Aside0 (∀ W, Dn w W w.heap.size sb #[.slice AH nH cH, .slice AA nA cA, .slice (some ad) nO cO] sF (.slice AW nW cW) (.slice AC nC cC) → Calls Tryz.prog 31 #[.agg (mqCells sF (.slice AW nW cW) (.slice AC nC cC)), .agg #[.int .i64 a0, .int .i64 a1, .int .i64 a2, .string a3, .bool a4, .bool a5, .string b0, .string ⟨bl.toArray⟩, .slice A8 n8 c8, .bool b3, .int .i64 b4]] W (GQ W sF (giveM sF b0 bl a5))) := ⟨fun W hD => by
      obtain ⟨h1, h2, h3⟩ := hD.inn HGF.out.1
      have h := give_calls sF AW cW AC cC a0 a1 a2 b4 a3 b0 bl a4 a5 b3 A8 n8 c8 W h3 (HG.out.below hD.bel) (by have := HXM.out.1; omega) (by have := HXM.out.1; omega) HXM.out.2
      rw [h1, h2]
      exact h⟩
     go_wp2_with (first
      | ((with_reducible refine gate_dst (N := 50) rfl ?_); refine wpList_load_at rfl 66 (.tmp 49) rfl (ad.add (i * 11)) rfl [.int .i64 a0, .int .i64 a1, .int .i64 a2, .string a3, .bool a4, .bool a5, .string b0, .string ⟨bl.toArray⟩, .slice A8 n8 c8, .bool b3, .int .i64 b4] _ HRG.out Tryz.underlying66 rfl (by kernel_rfl) ?_)
      | ((with_reducible refine gate_store (t := 66) (p := 8) rfl ?_); refine wpList_store_blk 66 (.tmp 8) (.tmp 50) rfl rfl rfl (g := wr.heap.size) (e := 66) (.agg #[.int .i64 a0, .int .i64 a1, .int .i64 a2, .string a3, .bool a4, .bool a5, .string b0, .string ⟨bl.toArray⟩, .slice A8 n8 c8, .bool b3, .int .i64 b4]) [.int .i64 a0, .int .i64 a1, .int .i64 a2, .string a3, .bool a4, .bool a5, .string b0, .string ⟨bl.toArray⟩, .slice A8 n8 c8, .bool b3, .int .i64 b4] rfl rfl rfl (heap_alloc_new wr _) (by kernel_rfl) rfl (by simp [mqCells, Value.oneCell']) ?_; intro W3 hw; have HB5 := Amk (hw.below (bal (Below.refl wr.heap.size wr) _) (by simp) (Nat.le_refl _)); have HD5 := Amk (HD1.out.below HB5.out); have HX5 := Amk hw.blk; clear hw)
      | ((with_reducible refine gate_dst (N := 52) rfl ?_); refine wpList_load_row rfl 45 (.tmp 5) rfl sb rfl 45 (mqCells sF (.slice AW nW cW) (.slice AC nC cC)) (0, 0) _ HD5.out.sblk Tryz.underlying45 rfl (by kernel_rfl) ?_)
      | ((with_reducible refine gate_dst (N := 53) rfl ?_); refine wpList_load_row rfl 66 (.tmp 8) rfl wr.heap.size rfl 66 #[.int .i64 a0, .int .i64 a1, .int .i64 a2, .string a3, .bool a4, .bool a5, .string b0, .string ⟨bl.toArray⟩, .slice A8 n8 c8, .bool b3, .int .i64 b4] (0, 0) _ HX5.out Tryz.underlying66 rfl (by kernel_rfl) ?_)
      | (go_at_call 31; refine Calls.mono (HT31.out _ HD5.out) ?_; rintro e3 w3 ⟨v1, v2, v3, rfl, hr1, hr2, hby, hb⟩; have HD6 := Amk (HD5.out.below hb); have HR1 := Amk (Kd.R_lower hr1 HD5.out.sz); have HR2 := Amk (Kd.R_lower hr2 HD5.out.sz); obtain ⟨AB, nB, cB, rfl, _⟩ := hby.slice'; clear hr1 hr2 hb hby; obtain ⟨A1, n1, c1, rfl, _⟩ := R_parts HR1.out; obtain ⟨A2, n2, c2, rfl, _⟩ := R_parts HR2.out)
      | ((with_reducible refine gate_store (t := 45) (p := 5) rfl ?_); refine wpList_store_blk 45 (.tmp 5) (.tmp 55) rfl rfl rfl (g := sb) (e := 45) (.agg (mqCells sF (.slice A1 n1 c1) (.slice A2 n2 c2))) (mqCells sF (.slice A1 n1 c1) (.slice A2 n2 c2)).toList rfl rfl rfl HD6.out.sblk (by kernel_rfl) rfl (by simp [mqCells, Value.oneCell']) ?_; intro W4 hw; have HD7 := Amk (HD6.out.store (s' := sF) (vW' := .slice A1 n1 c1) (vC' := .slice A2 n2 c2) hw HR1.out HR2.out); clear hw))
     go_roundg g
     case rel => exact ⟨i + 1, _, _, by go_num, by omega, HD7⟩
     case measure => omega
    | zero =>
     have hge : decide ((i : Int) < (nO : Int)) = false := decide_eq_false (by omega)
     have hge2 : decide (i < nO) = false := decide_eq_false (by omega)
     have HCP : Aside0 (∀ W, Dn w W w.heap.size sb #[.slice AH nH cH, .slice AA nA cA, .slice AO nO cO] sF (.slice AW nW cW) (.slice AC nC cC) → Calls Tryz.prog 32 #[.agg (mqCells sF (.slice AW nW cW) (.slice AC nC cC))] W fun e w' => ∃ vW vC, e = .returned (.agg (mqCells sF vW vC)) ∧ kOp.R 64 w' W.heap.size (fun _ => True) vW sF.will ∧ (Kd.int .i64).R 3 w' W.heap.size (fun _ => True) vC sF.codes ∧ Below W.heap.size W w') := ⟨fun W hD => by
      obtain ⟨h1, h2, h3⟩ := hD.inn HGF.out.1
      have h := copymq_calls sF AW cW AC cC W h3
      rw [h1, h2]
      exact h⟩
     go_upto_region 12 with (first
      | ((with_reducible refine gate_dst (N := 58) rfl ?_); refine wpList_load_row rfl 45 (.tmp 5) rfl sb rfl 45 (mqCells sF (.slice AW nW cW) (.slice AC nC cC)) (0, 0) _ HD1.out.sblk Tryz.underlying45 rfl (by kernel_rfl) ?_)
      | (go_at_call 32; refine Calls.mono (HCP.out _ HD1.out) ?_; rintro e3 w3 ⟨v1, v2, rfl, hr1, hr2, hb⟩; have HB3 := Amk (bth HD1.out.bel HD1.out.sz hb); have HR1 := Amk (Kd.R_lower hr1 HD1.out.sz); have HR2 := Amk (Kd.R_lower hr2 HD1.out.sz); clear hr1 hr2 hb; obtain ⟨AM, nM, cM, rfl, _⟩ := R_parts HR1.out; obtain ⟨AN, nN, cN, rfl, _⟩ := R_parts HR2.out)
      | ((with_reducible refine gate_store (t := 45) (p := 9) rfl ?_); refine wpList_store_blk 45 (.tmp 9) (.tmp 59) rfl rfl rfl (g := w3.heap.size) (e := 45) (.agg (mqCells sF (.slice AM nM cM) (.slice AN nN cN))) (mqCells sF (.slice AM nM cM) (.slice AN nN cN)).toList rfl rfl rfl (heap_alloc_new w3 _) (by kernel_rfl) rfl (by simp [mqCells, Value.oneCell']) ?_; intro W3 hw; have HB4 := Amk (hw.below (bal (Below.refl w3.heap.size w3) _) (by simp) (Nat.le_refl _)); have HM : Aside0 (Hd w W3 w3.heap.size sF [] (.slice AM nM cM) (.slice AN nN cN) (.slice none 0 0)) := ⟨⟨hw.blk, Kd.R_below HR1.out HB4.out, Kd.R_below HR2.out HB4.out, Kd.R_nil _ _ _ _ _⟩⟩; have HB5 := Amk (bth HB3.out HB3.out.size HB4.out); have HGB := Amk HB3.out.size; clear hw))
     generalize w3.heap.size = mb at *
     clear HR1 HR2 HB3 HB4 HCP HD1 hge hge2
     have cr := (bqc HM.out.blk 0).trans (show _ = some (Value.string sF.rest) from rfl)
     have zr := blk_frozen HM.out.blk 0
     have hIS : sF.rest.size + (⟨#[192, 0]⟩ : ByteArray).size ≤ 9223372036854775807 := by
      have : (⟨#[192, 0]⟩ : ByteArray).size = 2 := rfl
      have := HRZ.out; omega
     go_upto_region 13 with fail
     obtain ⟨sM, hsM⟩ : ∃ sM, ({ sF with rest := sF.rest ++ ⟨#[192, 0]⟩ } : Mq) = sM := ⟨_, rfl⟩
     have HM2 : Aside0 (Hd w (W3.setCell ⟨mb, 0, none⟩ (.string (sF.rest ++ ⟨#[192, 0]⟩))) mb sM [] (.slice AM nM cM) (.slice AN nN cN) (.slice none 0 0)) := ⟨by
      rw [← hsM]
      exact ⟨by simpa [mqCells] using blk_set HM.out.blk 0 (.string (sF.rest ++ ⟨#[192, 0]⟩)), Kd.R_set HM.out.will HM.out.blk (by decide) 0 _, Kd.R_set HM.out.codes HM.out.blk (by decide) 0 _, Kd.R_nil _ _ _ _ _⟩⟩
     have HB6 : Aside0 (Below w.heap.size w (W3.setCell ⟨mb, 0, none⟩ (.string (sF.rest ++ ⟨#[192, 0]⟩)))) := ⟨below_set HB5.out HGB.out⟩
     have HGM : Aside0 (Good sM) := ⟨by rw [← hsM]; exact ⟨⟨HGF.out.1.will, HGF.out.1.codes, HGF.out.1.each, HGF.out.1.client⟩, HGF.out.2⟩⟩
     generalize W3.setCell ⟨mb, 0, none⟩ (.string (sF.rest ++ ⟨#[192, 0]⟩)) = W6 at *
     clear cr zr hIS hsM HM HB5 HRZ HGF
     obtain ⟨a, l, b, hnx⟩ : ∃ a l b, nextM sM conn = (a, l, b) := ⟨_, _, _, rfl⟩
     have hok := nextM_ok HGM.out hnx
     have HGA := Amk hok.1
     have HL34 := Amk hok.2.2.2.1
     have HFW : Aside0 (∀ x ∈ l, x.ops.length ≤ 16) := ⟨fun x hx => (hok.2.1 x hx).few⟩
     have HCM : Aside0 (∀ W, Hd w W mb sM [] (.slice AM nM cM) (.slice AN nN cN) (.slice none 0 0) → Calls Tryz.prog 32 #[.agg (mqCells sM (.slice AM nM cM) (.slice AN nN cN))] W fun e w' => ∃ vW vC, e = .returned (.agg (mqCells sM vW vC)) ∧ kOp.R 64 w' W.heap.size (fun _ => True) vW sM.will ∧ (Kd.int .i64).R 3 w' W.heap.size (fun _ => True) vC sM.codes ∧ Below W.heap.size W w') := ⟨fun W hD => by
      obtain ⟨h1, h2, h3⟩ := hD.inn HGM.out.1
      have h := copymq_calls sM AM cM AN cN W h3
      rw [h1, h2]
      exact h⟩
     have HNM : Aside0 (∀ W, Below w.heap.size w W → Hd w W mb sM [] (.slice AM nM cM) (.slice AN nN cN) (.slice none 0 0) → Calls Tryz.prog 27 #[.agg (mqCells sM (.slice AM nM cM) (.slice AN nN cN)), .int .i64 conn] W (NQ W (a, l, b))) := ⟨fun W hB hD => by
      obtain ⟨h1, h2, h3⟩ := hD.inn HGM.out.1
      have h := mqnext_calls sM AM cM AN cN conn W h3 (HG.out.below hB) HGM.out HCN.out.1 HCN.out.2
      rw [hnx] at h
      rw [h1, h2]
      exact h⟩
     clear hok hnx
     go_upto_region 14 with (first
      | ((with_reducible refine gate_dst (N := 64) rfl ?_); refine wpList_load_row rfl 45 (.tmp 9) rfl mb rfl 45 (mqCells sM (.slice AM nM cM) (.slice AN nN cN)) (0, 0) _ HM2.out.blk Tryz.underlying45 rfl (by kernel_rfl) ?_)
      | (go_at_call 32; refine Calls.mono (HCM.out _ HM2.out) ?_; rintro e7 w7 ⟨v1, v2, rfl, hr1, hr2, hb⟩; have HB7 := Amk (bth HB6.out HB6.out.size hb); have HM3 := Amk (HM2.out.below hb); have HR1 := Amk (Kd.R_lower hr1 HB6.out.size); have HR2 := Amk (Kd.R_lower hr2 HB6.out.size); clear hr1 hr2 hb; obtain ⟨AP, nP, cP, rfl, _⟩ := R_parts HR1.out; obtain ⟨AQ, nQ, cQ, rfl, _⟩ := R_parts HR2.out)
      | ((with_reducible refine gate_store (t := 45) (p := 10) rfl ?_); refine wpList_store_blk 45 (.tmp 10) (.tmp 65) rfl rfl rfl (g := w7.heap.size) (e := 45) (.agg (mqCells sM (.slice AP nP cP) (.slice AQ nQ cQ))) (mqCells sM (.slice AP nP cP) (.slice AQ nQ cQ)).toList rfl rfl rfl (heap_alloc_new w7 _) (by kernel_rfl) rfl (by simp [mqCells, Value.oneCell']) ?_; intro W3 hw; have HB8 := Amk (hw.below (bal (Below.refl w7.heap.size w7) _) (by simp) (Nat.le_refl _)); have HP : Aside0 (Hd w W3 w7.heap.size sM [] (.slice AP nP cP) (.slice AQ nQ cQ) (.slice none 0 0)) := ⟨⟨hw.blk, Kd.R_below HR1.out HB8.out, Kd.R_below HR2.out HB8.out, Kd.R_nil _ _ _ _ _⟩⟩; have HM4 := Amk (HM3.out.below HB8.out); have HB9 := Amk (bth HB7.out HB7.out.size HB8.out); clear hw))
     generalize w7.heap.size = pb at *
     clear HR1 HR2 HB7 HB8 HM2 HM3 HB6 HCM
     go_upto_region 15 with (first
      | ((with_reducible refine gate_dst (N := 67) rfl ?_); refine wpList_load_row rfl 45 (.tmp 9) rfl mb rfl 45 (mqCells sM (.slice AM nM cM) (.slice AN nN cN)) (0, 0) _ HM4.out.blk Tryz.underlying45 rfl (by kernel_rfl) ?_)
      | (go_at_call 27; refine Calls.mono (HNM.out _ HB9.out HM4.out) ?_; rintro e4 w4 ⟨v1, v2, v3, rfl, hr1, hr2, hr3, hb⟩; have HBA := Amk (bth HB9.out HB9.out.size hb); have HMA := Amk (HM4.out.below hb); have HPA := Amk (HP.out.below hb); have HR1 := Amk (Kd.R_lower hr1 HB9.out.size); have HR2 := Amk (Kd.R_lower hr2 HB9.out.size); have HR3 := Amk (Kd.R_lower hr3 HB9.out.size); clear hr1 hr2 hr3 hb; obtain ⟨AR, nR, cR, rfl, _⟩ := R_parts HR1.out; obtain ⟨AS, nS, cS, rfl, _⟩ := R_parts HR2.out; obtain ⟨AL, nL, cL, rfl, HNL⟩ := R_parts HR3.out)
      | ((with_reducible refine gate_store (t := 45) (p := 11) rfl ?_); refine wpList_store_blk 45 (.tmp 11) (.tmp 70) rfl rfl rfl (g := w4.heap.size) (e := 45) (.agg (mqCells a (.slice AR nR cR) (.slice AS nS cS))) (mqCells a (.slice AR nR cR) (.slice AS nS cS)).toList rfl rfl rfl (heap_alloc_new w4 _) (by kernel_rfl) rfl (by simp [mqCells, Value.oneCell']) ?_; intro W4 hw; have HBB := Amk (hw.below (bal (Below.refl w4.heap.size w4) _) (by simp) (Nat.le_refl _)); have HA1 : Aside0 (Hd w W4 w4.heap.size a l (.slice AR nR cR) (.slice AS nS cS) (.slice AL nL cL)) := ⟨⟨hw.blk, Kd.R_below HR1.out HBB.out, Kd.R_below HR2.out HBB.out, Kd.R_below HR3.out HBB.out⟩⟩; have HMB := Amk (HMA.out.below HBB.out); have HPB := Amk (HPA.out.below HBB.out); have HBC := Amk (bth HBA.out HBA.out.size HBB.out); clear hw))
     generalize w4.heap.size = ab at *
     clear HR1 HR2 HR3 HBA HBB HMA HPA HM4 HP HB9
     go_upto_region 16 with (first
      | ((with_reducible refine gate_dst (N := 74) rfl ?_); refine wpList_load_row rfl 45 (.tmp 9) rfl mb rfl 45 (mqCells sM (.slice AM nM cM) (.slice AN nN cN)) (0, 0) _ HMB.out.blk Tryz.underlying45 rfl (by kernel_rfl) ?_)
      | (go_at_call 27; refine Calls.mono (HNM.out _ HBC.out HMB.out) ?_; rintro e5 w5 ⟨v1, v2, v3, rfl, hr1, hr2, hr3, hb⟩; have HBD' := Amk hb; have HBD := Amk (bth HBC.out HBC.out.size hb); have HMC := Amk (HMB.out.below hb); have HPC := Amk (HPB.out.below hb); have HAC := Amk (HA1.out.below hb); have HR1 := Amk hr1; have HR2 := Amk hr2; have HR3 := Amk hr3; clear hr1 hr2 hr3 hb; obtain ⟨AT, nT, cT, rfl, _⟩ := R_parts HR1.out; obtain ⟨AU, nU, cU, rfl, _⟩ := R_parts HR2.out; obtain ⟨AK, nK, cK, rfl, HNK⟩ := R_parts HR3.out)
      | ((with_reducible refine gate_store (t := 45) (p := 14) rfl ?_); refine wpList_store_blk 45 (.tmp 14) (.tmp 77) rfl rfl rfl (g := w5.heap.size) (e := 45) (.agg (mqCells a (.slice AT nT cT) (.slice AU nU cU))) (mqCells a (.slice AT nT cT) (.slice AU nU cU)).toList rfl rfl rfl (heap_alloc_new w5 _) (by kernel_rfl) rfl (by simp [mqCells, Value.oneCell']) ?_; intro W5 hw; have HBE := Amk (hw.below (bal (Below.refl w5.heap.size w5) _) (by simp) (Nat.le_refl _)); have HT1 : Aside0 (Hd W4 W5 w5.heap.size a l (.slice AT nT cT) (.slice AU nU cU) (.slice AK nK cK)) := ⟨⟨hw.blk, Kd.R_below HR1.out HBE.out, Kd.R_below HR2.out HBE.out, Kd.R_below HR3.out HBE.out⟩⟩; have HBF := Amk (bth HBD'.out (Nat.le_trans (Nat.le_refl _) HBD'.out.size) HBE.out); have HTG := Amk HBD'.out.size; have HBG := Amk (bth HBD.out HBD.out.size HBE.out); have HMD := Amk (HMC.out.below HBE.out); have HPD := Amk (HPC.out.below HBE.out); have HAD := Amk (HAC.out.below HBE.out); clear hw))
     generalize w5.heap.size = tb at *
     clear HR1 HR2 HR3 HBD HBD' HBE HNM HMC HPC HAC HPB
     have HWW := Amk HBC.out.size
     have HSMP : Aside0 (∀ W, Hd w W mb sM [] (.slice AM nM cM) (.slice AN nN cN) (.slice none 0 0) → Hd w W pb sM [] (.slice AP nP cP) (.slice AQ nQ cQ) (.slice none 0 0) → Calls Tryz.prog 24 #[.agg (mqCells sM (.slice AM nM cM) (.slice AN nN cN)), .agg (mqCells sM (.slice AP nP cP) (.slice AQ nQ cQ))] W fun e w' => e = .returned (.bool true) ∧ Below W.heap.size W w') := ⟨fun W h1 h2 => h1.same h2 HGM.out.1⟩
     have HSAT : Aside0 (∀ W, Hd w W ab a l (.slice AR nR cR) (.slice AS nS cS) (.slice AL nL cL) → Hd W4 W tb a l (.slice AT nT cT) (.slice AU nU cU) (.slice AK nK cK) → Calls Tryz.prog 24 #[.agg (mqCells a (.slice AR nR cR) (.slice AS nS cS)), .agg (mqCells a (.slice AT nT cT) (.slice AU nU cU))] W fun e w' => e = .returned (.bool true) ∧ Below W.heap.size W w') := ⟨fun W h1 h2 => h1.same (h2.lower HWW.out) HGA.out.1⟩
     have HSLK : Aside0 (∀ W, Hd w W ab a l (.slice AR nR cR) (.slice AS nS cS) (.slice AL nL cL) → Hd W4 W tb a l (.slice AT nT cT) (.slice AU nU cU) (.slice AK nK cK) → Calls Tryz.prog 25 #[.slice AL nL cL, .slice AK nK cK] W fun e w' => e = .returned (.bool true) ∧ Below W.heap.size W w') := ⟨fun W h1 h2 => h1.acts_same (h2.lower HWW.out) (by have := HL34.out; omega) HFW.out⟩
     go_upto_region 18 with (first
      | ((with_reducible refine gate_dst (N := 80) rfl ?_); refine wpList_load_row rfl 45 (.tmp 9) rfl mb rfl 45 (mqCells sM (.slice AM nM cM) (.slice AN nN cN)) (0, 0) _ HMD.out.blk Tryz.underlying45 rfl (by kernel_rfl) ?_)
      | ((with_reducible refine gate_dst (N := 81) rfl ?_); refine wpList_load_row rfl 45 (.tmp 10) rfl pb rfl 45 (mqCells sM (.slice AP nP cP) (.slice AQ nQ cQ)) (0, 0) _ HPD.out.blk Tryz.underlying45 rfl (by kernel_rfl) ?_)
      | (go_at_call 24; with_reducible refine Calls.mono (HSMP.out _ HMD.out HPD.out) ?_; rintro e6 w6 ⟨rfl, hb⟩; have HMD := Amk (HMD.out.below hb); have HAD := Amk (HAD.out.below hb); have HT1 := Amk (HT1.out.below hb); have HBG := Amk (bth HBG.out HBG.out.size hb); have HBF := Amk (bth HBF.out HBF.out.size hb); clear hb; obtain ⟨k0, k1, k2, k3, k4, k5, k6⟩ := mq_cells HAD.out.blk; obtain ⟨m0, m1, m2, m3, m4, m5, m6⟩ := mq_cells HT1.out.blk)
      | (go_at_call 24; refine Calls.mono (HSAT.out _ HAD.out HT1.out) ?_; rintro e6 w7 ⟨rfl, hb⟩; have HMD := Amk (HMD.out.below hb); have HAD := Amk (HAD.out.below hb); have HT1 := Amk (HT1.out.below hb); have HBG := Amk (bth HBG.out HBG.out.size hb); have HBF := Amk (bth HBF.out HBF.out.size hb); clear hb)
      | (go_at_call 25; with_reducible refine Calls.mono (HSLK.out _ HAD.out HT1.out) ?_; rintro e6 w8 ⟨rfl, hb⟩; have HMD := Amk (HMD.out.below hb); have HAD := Amk (HAD.out.below hb); have HT1 := Amk (HT1.out.below hb); have HBG := Amk (bth HBG.out HBG.out.size hb); have HBF := Amk (bth HBF.out HBF.out.size hb); clear hb))
     clear HSMP HSAT HSLK HPD k0 k1 k2 k3 k4 k5 k6 m0 m1 m2 m3 m4 m5 m6
     have HCT : Aside0 (∀ W, Hd W4 W tb a l (.slice AT nT cT) (.slice AU nU cU) (.slice AK nK cK) → Calls Tryz.prog 32 #[.agg (mqCells a (.slice AT nT cT) (.slice AU nU cU))] W fun e w' => ∃ vW vC, e = .returned (.agg (mqCells a vW vC)) ∧ kOp.R 64 w' W.heap.size (fun _ => True) vW a.will ∧ (Kd.int .i64).R 3 w' W.heap.size (fun _ => True) vC a.codes ∧ Below W.heap.size W w') := ⟨fun W hD => by
      obtain ⟨h1, h2, h3⟩ := hD.inn HGA.out.1
      have h := copymq_calls a AT cT AU cU W h3
      rw [h1, h2]
      exact h⟩
     have HT4 := Amk (Nat.le_trans HTG.out (Nat.le_of_lt (blt HT1.out.blk)))
     go_upto_region 19 with (first
      | ((with_reducible refine gate_dst (N := 96) rfl ?_); refine wpList_load_row rfl 45 (.tmp 14) rfl tb rfl 45 (mqCells a (.slice AT nT cT) (.slice AU nU cU)) (0, 0) _ HT1.out.blk Tryz.underlying45 rfl (by kernel_rfl) ?_)
      | (go_at_call 32; refine Calls.mono (HCT.out _ HT1.out) ?_; rintro e9 w9 ⟨v1, v2, rfl, hr1, hr2, hb⟩; have HR1 := Amk (Kd.R_lower hr1 HT4.out); have HR2 := Amk (Kd.R_lower hr2 HT4.out); have HW9 := Amk (Nat.le_trans HT4.out hb.size); clear hr1 hr2; have HMD := Amk (HMD.out.below hb); have HAD := Amk (HAD.out.below hb); have HT1 := Amk (HT1.out.below hb); have HBG := Amk (bth HBG.out HBG.out.size hb); have HBF := Amk (bth HBF.out HBF.out.size hb); clear hb; obtain ⟨AX, nX, cX, rfl, _⟩ := R_parts HR1.out; obtain ⟨AY, nY, cY, rfl, _⟩ := R_parts HR2.out)
      | ((with_reducible refine gate_store (t := 45) (p := 17) rfl ?_); refine wpList_store_blk 45 (.tmp 17) (.tmp 97) rfl rfl rfl (g := w9.heap.size) (e := 45) (.agg (mqCells a (.slice AX nX cX) (.slice AY nY cY))) (mqCells a (.slice AX nX cX) (.slice AY nY cY)).toList rfl rfl rfl (heap_alloc_new w9 _) (by kernel_rfl) rfl (by simp [mqCells, Value.oneCell']) ?_; intro W9 hw; have HBX := Amk (hw.below (bal (Below.refl w9.heap.size w9) _) (by simp) (Nat.le_refl _)); have HWN : Aside0 (Hd W4 W9 w9.heap.size a [] (.slice AX nX cX) (.slice AY nY cY) (.slice none 0 0)) := ⟨⟨hw.blk, Kd.R_below HR1.out HBX.out, Kd.R_below HR2.out HBX.out, Kd.R_nil _ _ _ _ _⟩⟩; have hb := HBX.out; have HMD := Amk (HMD.out.below hb); have HAD := Amk (HAD.out.below hb); have HT1 := Amk (HT1.out.below hb); have HBG := Amk (bth HBG.out HBG.out.size hb); have HBF := Amk (bth HBF.out HBF.out.size hb); clear hb; clear hw))
     generalize w9.heap.size = xb at *
     clear HR1 HR2 HBX HCT HT4
     go_upto_region 20 with (first
      | ((with_reducible refine gate_dst (N := 98) rfl ?_); refine wpList_load_row rfl 45 (.tmp 11) rfl ab rfl 45 #[.string a.rest, .bool a.up, .bool a.down, .string a.client, .bool a.clean, .slice AR nR cR, .slice AS nS cS] (0, 0) _ HAD.out.blk Tryz.underlying45 rfl (by kernel_rfl) ?_)
      | ((with_reducible refine gate_dst (N := 99) rfl ?_); refine wpList_load_row rfl 45 (.tmp 9) rfl mb rfl 45 #[.string sM.rest, .bool sM.up, .bool sM.down, .string sM.client, .bool sM.clean, .slice AM nM cM, .slice AN nN cN] (0, 0) _ HMD.out.blk Tryz.underlying45 rfl (by kernel_rfl) ?_))
     have HBA := Amk (bal (Below.refl W9.heap.size W9) (.cells #[.string a.rest, .bool a.up, .bool a.down, .string a.client, .bool a.clean, .slice AR nR cR, .slice AS nS cS, .string sM.rest, .bool sM.up, .bool sM.down, .string sM.client, .bool sM.clean, .slice AM nM cM, .slice AN nN cN] 45))
     have HTZ := Amk (HT1.out.below HBA.out)
     have HXZ := Amk (HWN.out.below HBA.out)
     have HBZ := Amk (bth HBG.out HBG.out.size HBA.out)
     have HB4 := Amk (bth HBF.out HBF.out.size HBA.out)
     have HRB := Amk (heap_alloc_new W9 (.cells #[.string a.rest, .bool a.up, .bool a.down, .string a.client, .bool a.clean, .slice AR nR cR, .slice AS nS cS, .string sM.rest, .bool sM.up, .bool sM.down, .string sM.client, .bool sM.clean, .slice AM nM cM, .slice AN nN cN] 45))
     have HRG := Amk HBF.out.size
     generalize W9.heap.size = rb at *
     generalize W9.alloc (.cells #[.string a.rest, .bool a.up, .bool a.down, .string a.client, .bool a.clean, .slice AR nR cR, .slice AS nS cS, .string sM.rest, .bool sM.up, .bool sM.down, .string sM.client, .bool sM.clean, .slice AM nM cM, .slice AN nN cN] 45) = W0 at *
     clear HBA HT1 HWN HBG HBF HMD HAD
     have HK0 : Aside0 (Kp w W0 W0 W4.heap.size) := ⟨Kp.refl HBZ.out⟩
     clear HBZ
     go_loopg [102] 2 (fun kq v102 wx => ∃ i : Nat, v102 = .int .i64 (i : Nat) ∧ i + kq = 2 ∧ Aside0 (Kp w W0 wx W4.heap.size))
     case atStart => exact ⟨0, rfl, by omega, HK0⟩
     case round =>
      clear HK0
      obtain ⟨i, rfl, hi, HK⟩ := hrel
      cases gk with
      | succ gA =>
       have hlt : decide ((i : Int) < 2) = true := decide_eq_true (by omega)
       have hlt2 : decide (i < 2) = true := decide_eq_true (by omega)
       have hi2 : i < 2 := by omega
       have hy : ∃ (s : Mq) (yb : Nat) (l' : List BAct) (AW : Option Addr) (nW cW : Nat) (AC : Option Addr) (nC cC : Nat) (v3 : Value), wr.rangeAt rb (i * 7) [.string s.rest, .bool s.up, .bool s.down, .string s.client, .bool s.clean, .slice AW nW cW, .slice AC nC cC] ∧ Hd w W4 yb s l' (.slice AW nW cW) (.slice AC nC cC) v3 ∧ MqOk s := by
        have hr := (HK.out.late rb HRG.out (blt HRB.out)).trans HRB.out
        rcases (show i = 0 ∨ i = 1 by omega) with rfl | rfl
        ·
         exact ⟨a, ab, l, _, _, _, _, _, _, _, range_mid hr 0 rfl, HA1.out, HGA.out.1⟩
        ·
         exact ⟨sM, mb, [], _, _, _, _, _, _, _, range_mid hr 7 rfl, HMB.out, HGM.out.1⟩
       obtain ⟨s, yb, l', AW, nW, cW, AC, nC, cC, v3, hry, hyd, hmo⟩ := hy
       have HRY := Amk hry
       have HYD := Amk hyd
       have hnW : nW ≤ 1 := by have := (Kd.R_reads' hyd.will).1; have := hmo.will; omega
       have hnC : nC ≤ 32 := by have := (Kd.R_reads' hyd.codes).1; have := hmo.codes; omega
       clear hry hyd hmo
       go_wp2_with (first
        | ((with_reducible refine gate_dst (N := 105) rfl ?_); refine wpList_load_mid rfl 45 (.tmp 104) rfl rb (i * 7) rfl [.string s.rest, .bool s.up, .bool s.down, .string s.client, .bool s.clean, .slice AW nW cW, .slice AC nC cC] _ HRY.out Tryz.underlying45 rfl (by kernel_rfl) ?_)
        | ((with_reducible refine gate_store (t := 45) (p := 19) rfl ?_); refine wpList_store_blk 45 (.tmp 19) (.tmp 105) rfl rfl rfl (g := wr.heap.size) (e := 45) (.agg #[.string s.rest, .bool s.up, .bool s.down, .string s.client, .bool s.clean, .slice AW nW cW, .slice AC nC cC]) [.string s.rest, .bool s.up, .bool s.down, .string s.client, .bool s.clean, .slice AW nW cW, .slice AC nC cC] rfl rfl rfl (heap_alloc_new wr _) (by kernel_rfl) rfl (by simp [mqCells, Value.oneCell']) ?_; intro W3 hw; have HK1 := Amk (HK.out.below (hw.below (bal (Below.refl wr.heap.size wr) _) (by simp) (Nat.le_refl _))); have HY1 := Amk hw.blk; have y6 := (bqc HY1.out 6).trans (show _ = some (Value.slice AC nC cC) from rfl); clear hw))
       generalize wr.heap.size = yk at *
       clear y6 HK HRY hlt hlt2
       go_loopg [109] nC (fun kq v109 wx => ∃ j : Nat, v109 = .int .i64 (j : Nat) ∧ j + kq = nC ∧ Aside0 (Kp w W0 wx W4.heap.size) ∧ Aside0 (wx.heap[yk]? = some (.cells #[.string s.rest, .bool s.up, .bool s.down, .string s.client, .bool s.clean, .slice AW nW cW, .slice AC nC cC] 45 (0, 0))))
       case atStart => exact ⟨0, rfl, by omega, HK1, HY1⟩
       case round =>
        clear HK1 HY1
        obtain ⟨j, rfl, hj, HK2, HY2⟩ := hrel
        cases gk with
        | succ gB =>
         have hlt : decide ((j : Int) < (nC : Int)) = true := decide_eq_true (by omega)
         have hlt2 : decide (j < nC) = true := decide_eq_true (by omega)
         have hjl : j < nC := by omega
         have hjb : j < 1048576 := by omega
         obtain ⟨gb, cells, hA, hc4, hsz, hbs, hl4⟩ := R_room HYD.out.codes (0 : Int) j hjl (by decide)
         subst hA
         have hc0 := (HB4.out.block gb hl4).trans hc4
         have ht := HK2.out.there hc0 (j * 1) 1 hsz
         rw [Nat.mul_one] at ht
         obtain ⟨hs0, hz0⟩ := ht 0 (by decide)
         rw [Nat.add_zero] at hs0 hz0
         obtain ⟨u0, hu0⟩ := Option.isSome_iff_exists.1 hs0
         have y6 := (bqc HY2.out 6).trans (show _ = some (Value.slice (some ⟨gb, 0, none⟩) nC cC) from rfl)
         have HK3 : Aside0 (Kp w W0 (wr.setCell ⟨gb, j, none⟩ (.int .i64 (-9))) W4.heap.size) := ⟨HK2.out.setCells hl4 hbs hc0 (.inl rfl) j [.int .i64 (-9)]⟩
         have HY3 : Aside0 ((wr.setCell ⟨gb, j, none⟩ (.int .i64 (-9))).heap[yk]? = some (.cells #[.string s.rest, .bool s.up, .bool s.down, .string s.client, .bool s.clean, .slice AW nW cW, .slice (some ⟨gb, 0, none⟩) nC cC] 45 (0, 0))) := ⟨by
          obtain ⟨ds, h1, _⟩ := HK2.out.shape gb _ _ hc0
          exact blk_far HY2.out (p := ⟨gb, j, none⟩) (blk_ne HY2.out h1 (by decide)) _⟩
         clear hs0 ht hc0 hc4 hsz hbs hl4
         go_wp2_with fail
         go_roundg gB
         case rel => exact ⟨j + 1, by go_num, by omega, HK3, HY3⟩
         case measure => omega
        | zero =>
         have hge : decide ((j : Int) < (nC : Int)) = false := decide_eq_false (by omega)
         have hge2 : decide (j < nC) = false := decide_eq_false (by omega)
         have y5 := (bqc HY2.out 5).trans (show _ = some (Value.slice AW nW cW) from rfl)
         go_wp2_with fail
         clear hge hge2 y5
         go_loopg [120] nW (fun kq v120 wx => ∃ j : Nat, v120 = .int .i64 (j : Nat) ∧ j + kq = nW ∧ Aside0 (Kp w W0 wx W4.heap.size) ∧ Aside0 (wx.heap[yk]? = some (.cells #[.string s.rest, .bool s.up, .bool s.down, .string s.client, .bool s.clean, .slice AW nW cW, .slice AC nC cC] 45 (0, 0))))
         case atStart => exact ⟨0, rfl, by omega, HK2, HY2⟩
         case round =>
          clear HK2 HY2
          obtain ⟨j, rfl, hj, HK2, HY2⟩ := hrel
          cases gk with
          | succ gC =>
           have hlt : decide ((j : Int) < (nW : Int)) = true := decide_eq_true (by omega)
           have hlt2 : decide (j < nW) = true := decide_eq_true (by omega)
           have hjl : j < nW := by omega
           have hjb : j < 1048576 := by omega
           obtain ⟨gb, cells, hA, hc4, hsz, hbs, hl4⟩ := R_room HYD.out.will zOp j hjl (by decide)
           subst hA
           have hc0 := (HB4.out.block gb hl4).trans hc4
           have HTH := Amk (HK2.out.there hc0 (j * 14) 14 hsz)
           have y5 := (bqc HY2.out 5).trans (show _ = some (Value.slice (some ⟨gb, 0, none⟩) nW cW) from rfl)
           have HK3 : Aside0 (Kp w W0 (wr.setCells gb (j * 14) [.int .i64 0, .int .i64 0, .int .i64 0, .int .i64 0, .string ⟨#[]⟩, .string ⟨#[]⟩, .bool false, .bool false, .bool false, .string ⟨#[]⟩, .string ⟨#[]⟩, .slice none 0 0, .bool false, .int .i64 0]) W4.heap.size) := ⟨HK2.out.setCells hl4 hbs hc0 (.inr rfl) (j * 14) [.int .i64 0, .int .i64 0, .int .i64 0, .int .i64 0, .string ⟨#[]⟩, .string ⟨#[]⟩, .bool false, .bool false, .bool false, .string ⟨#[]⟩, .string ⟨#[]⟩, .slice none 0 0, .bool false, .int .i64 0]⟩
           have HY3 : Aside0 ((wr.setCells gb (j * 14) [.int .i64 0, .int .i64 0, .int .i64 0, .int .i64 0, .string ⟨#[]⟩, .string ⟨#[]⟩, .bool false, .bool false, .bool false, .string ⟨#[]⟩, .string ⟨#[]⟩, .slice none 0 0, .bool false, .int .i64 0]).heap[yk]? = some (.cells #[.string s.rest, .bool s.up, .bool s.down, .string s.client, .bool s.clean, .slice (some ⟨gb, 0, none⟩) nW cW, .slice AC nC cC] 45 (0, 0))) := ⟨by
            obtain ⟨ds, h1, _⟩ := HK2.out.shape gb _ _ hc0
            exact (setCells_far' gb _ (j * 14) wr yk (blk_ne HY2.out h1 (by decide))).trans HY2.out⟩
           clear hc0 hc4 hsz hbs hl4
           go_wp2_with ((with_reducible refine gate_store (t := 64) (p := 127) rfl ?_); refine wpList_store_mid rfl 64 (.tmp 127) (.tmp 126) rfl gb (j * 14) #[.int .i64 0, .int .i64 0, .int .i64 0, .int .i64 0, .string ⟨#[]⟩, .string ⟨#[]⟩, .bool false, .bool false, .bool false, .string ⟨#[]⟩, .string ⟨#[]⟩, .slice none 0 0, .bool false, .int .i64 0] rfl rfl HTH.out (by kernel_rfl) (by simp [Value.oneCell']) ?_)
           go_roundg gC
           case rel => exact ⟨j + 1, by go_num, by omega, HK3, HY3⟩
           case measure => omega
          | zero =>
           have hge : decide ((j : Int) < (nW : Int)) = false := decide_eq_false (by omega)
           have hge2 : decide (j < nW) = false := decide_eq_false (by omega)
           go_wp2_with fail
           go_roundg gA
           case rel => exact ⟨i + 1, by go_num, by omega, HK2⟩
           case measure => omega
      | zero =>
       have hge : decide ((i : Int) < 2) = false := decide_eq_false (by omega)
       have hge2 : decide (i < 2) = false := decide_eq_false (by omega)
       go_wp2_with fail
       clear hge hge2
       go_loopg [132] nL (fun kq v132 wx => ∃ i2 : Nat, v132 = .int .i64 (i2 : Nat) ∧ i2 + kq = nL ∧ Aside0 (Kp w W0 wx W4.heap.size))
       case atStart => exact ⟨0, rfl, by omega, HK⟩
       case round =>
        clear HK
        obtain ⟨i2, rfl, hi2, HK⟩ := hrel
        cases gk with
        | succ gA =>
         have hlt : decide ((i2 : Int) < (nL : Int)) = true := decide_eq_true (by omega)
         have hlt2 : decide (i2 < nL) = true := decide_eq_true (by omega)
         have hil : i2 < l.length := by have := HNL.out; omega
         have hib : i2 < 1048576 := by have := HL34.out; omega
         have hin : i2 < nL := by omega
         obtain ⟨gl, cap, hvg, _, hl4, cells, hc4⟩ := Kd.R_form HA1.out.acts (by omega)
         injection hvg with hAg hng hcapg
         subst hAg
         obtain ⟨cs, hcl, hM, hcc, hz⟩ := Kd.R_elem HA1.out.acts endAct (i2 : Int) (by omega) (by omega)
         obtain ⟨x, hx⟩ : ∃ x, l.getD (i2 : Int).toNat endAct = x := ⟨_, rfl⟩
         have hxm : x ∈ l := by rw [← hx]; simp [hil]
         have hxf := HFW.out x hxm
         rw [hx] at hM
         obtain ⟨v2, rfl, g2⟩ := kAct_openM hM
         obtain ⟨AO2, nO2, cO2, rfl, HNO2⟩ := R_parts g2
         have hO2 : nO2 ≤ 16 := by have := HNO2.out; omega
         have HOP := Amk g2
         have hcell : W4.cell? ⟨gl, i2 * 5 + 2, none⟩ = some (.slice AO2 nO2 cO2) := hcc 2 _ rfl
         have HCL : Aside0 (∀ W, Kp w W0 W W4.heap.size → W.cell? ⟨gl, i2 * 5 + 2, none⟩ = some (.slice AO2 nO2 cO2)) := ⟨fun W hk => by
          have h1 := hk.kept gl _ _ (by decide) (by decide) ((HB4.out.block gl hl4).trans hc4)
          rw [bqc h1, ← bqc hc4]
          exact hcell⟩
         have p2 := HCL.out _ HK.out
         clear hcell hcc hz hcl hM g2 hx hxm hxf hng hcapg hc4 hl4
         go_wp2_with fail
         clear p2 hlt hlt2
         go_loopg [141] nO2 (fun kq v141 wx => ∃ j : Nat, v141 = .int .i64 (j : Nat) ∧ j + kq = nO2 ∧ Aside0 (Kp w W0 wx W4.heap.size))
         case atStart => exact ⟨0, rfl, by omega, HK⟩
         case round =>
          clear HK
          obtain ⟨j, rfl, hj, HK2⟩ := hrel
          have p2 := HCL.out _ HK2.out
          cases gk with
          | succ gB =>
           have hlt : decide ((j : Int) < (nO2 : Int)) = true := decide_eq_true (by omega)
           have hlt2 : decide (j < nO2) = true := decide_eq_true (by omega)
           have hjl : j < nO2 := by omega
           have hjb : j < 1048576 := by omega
           obtain ⟨gb, cells, hA, hc4, hsz, hbs, hl4⟩ := R_room HOP.out zOp j hjl (by decide)
           subst hA
           have hc0 := (HB4.out.block gb hl4).trans hc4
           have HTH := Amk (HK2.out.there hc0 (j * 14) 14 hsz)
           have HK3 : Aside0 (Kp w W0 (wr.setCells gb (j * 14) [.int .i64 0, .int .i64 0, .int .i64 0, .int .i64 0, .string ⟨#[]⟩, .string ⟨#[]⟩, .bool false, .bool false, .bool false, .string ⟨#[]⟩, .string ⟨#[]⟩, .slice none 0 0, .bool false, .int .i64 0]) W4.heap.size) := ⟨HK2.out.setCells hl4 hbs hc0 (.inr rfl) (j * 14) [.int .i64 0, .int .i64 0, .int .i64 0, .int .i64 0, .string ⟨#[]⟩, .string ⟨#[]⟩, .bool false, .bool false, .bool false, .string ⟨#[]⟩, .string ⟨#[]⟩, .slice none 0 0, .bool false, .int .i64 0]⟩
           clear hc0 hc4 hsz hbs hl4
           go_wp2_with ((with_reducible refine gate_store (t := 64) (p := 151) rfl ?_); refine wpList_store_mid rfl 64 (.tmp 151) (.tmp 150) rfl gb (j * 14) #[.int .i64 0, .int .i64 0, .int .i64 0, .int .i64 0, .string ⟨#[]⟩, .string ⟨#[]⟩, .bool false, .bool false, .bool false, .string ⟨#[]⟩, .string ⟨#[]⟩, .slice none 0 0, .bool false, .int .i64 0] rfl rfl HTH.out (by kernel_rfl) (by simp [Value.oneCell']) ?_)
           go_roundg gB
           case rel => exact ⟨j + 1, by go_num, by omega, HK3⟩
           case measure => omega
          | zero =>
           have hge : decide ((j : Int) < (nO2 : Int)) = false := decide_eq_false (by omega)
           have hge2 : decide (j < nO2) = false := decide_eq_false (by omega)
           go_wp2_with fail
           go_roundg gA
           case rel => exact ⟨i2 + 1, by go_num, by omega, HK2⟩
           case measure => omega
        | zero =>
         have hge : decide ((i2 : Int) < (nL : Int)) = false := decide_eq_false (by omega)
         have hge2 : decide (i2 < nL) = false := decide_eq_false (by omega)
         have HT5 := Amk (HTZ.out.kp HK.out HTG.out).bare
         have HX5 := Amk (HXZ.out.kp HK.out HW9.out)
         have HSF : Aside0 (∀ W, Hd W4 W tb a [] (.slice AT nT cT) (.slice AU nU cU) (.slice none 0 0) → Hd W4 W xb a [] (.slice AX nX cX) (.slice AY nY cY) (.slice none 0 0) → Calls Tryz.prog 24 #[.agg (mqCells a (.slice AT nT cT) (.slice AU nU cU)), .agg (mqCells a (.slice AX nX cX) (.slice AY nY cY))] W fun e w' => e = .returned (.bool true) ∧ Below W.heap.size W w') := ⟨fun W h1 h2 => h1.same h2 HGA.out.1⟩
         go_wp2_with (first
          | ((with_reducible refine gate_dst (N := 154) rfl ?_); refine wpList_load_row rfl 45 (.tmp 14) rfl tb rfl 45 (mqCells a (.slice AT nT cT) (.slice AU nU cU)) (0, 0) _ HT5.out.blk Tryz.underlying45 rfl (by kernel_rfl) ?_)
          | ((with_reducible refine gate_dst (N := 155) rfl ?_); refine wpList_load_row rfl 45 (.tmp 17) rfl xb rfl 45 (mqCells a (.slice AX nX cX) (.slice AY nY cY)) (0, 0) _ HX5.out.blk Tryz.underlying45 rfl (by kernel_rfl) ?_)
          | (go_at_call 24; with_reducible refine Calls.mono (HSF.out _ HT5.out HX5.out) ?_; rintro e6 w6 ⟨rfl, hb⟩; have HBE := Amk (bth HK.out.bel HK.out.bel.size hb); clear hb))
         go_ret
         exact ⟨rfl, HBE.out⟩
end Go.Proofs.YtednegmjjjdinaaGreatDoor.Ext
