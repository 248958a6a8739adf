/- Texts of this claim's author, joined and pruned by a program of his (pack.py): Lp. -/
import Derived.Test.YtednegmjjjdinaaGreatDoorP0
import Derived.Test.YtednegmjjjdinaaGreatDoorP1
import Derived.Test.YtednegmjjjdinaaGreatDoorP2
import Derived.Test.YtednegmjjjdinaaGreatDoorP3
import Derived.Test.YtednegmjjjdinaaGreatDoorP4
import Derived.Test.YtednegmjjjdinaaGreatDoorP5
import Derived.Test.YtednegmjjjdinaaGreatDoorP7
import Derived.Test.YtednegmjjjdinaaGreatDoorP10
import Derived.Test.YtednegmjjjdinaaGreatDoorP11
import Derived.Test.YtednegmjjjdinaaGreatDoorP12
import Derived.Test.YtednegmjjjdinaaGreatDoorP13
import Derived.Test.YtednegmjjjdinaaGreatDoorP14
import Derived.Test.YtednegmjjjdinaaGreatDoorP15
import Derived.Test.YtednegmjjjdinaaGreatDoorP16
import Derived.Test.YtednegmjjjdinaaGreatDoorP17
import Derived.Test.YtednegmjjjdinaaGreatDoorP18
import Derived.Test.YtednegmjjjdinaaGreatDoorP21
set_option maxRecDepth 100000
set_option maxHeartbeats 4000000
open Go.Proofs.YtednegmjjjdinaaGreatDoorW.PrintWords renaming below_alloc → bal
open Go.Proofs.YtednegmjjjdinaaGreatDoorW.PrintWords.Aside0 renaming mk → Amk
namespace Go.Proofs.YtednegmjjjdinaaGreatDoor.Ext
open Go.RowKit Go.Proofs.YtednegmjjjdinaaGreatDoorW.PrintWords Go.Proofs.YtednegmjjjdinaaGreatDoorW.PrintLast Go.Proofs.YtednegmjjjdinaaGreatDoorW.PrintMore
set_option linter.unusedVariables false
set_option linter.unusedSimpArgs false
theorem there_blk {W : World} {b t : Nat} {cs : Array Value} (h : W.heap[b]? = some (.cells cs t (0, 0))) (o n : Nat) (hn : o + n ≤ cs.size) : W.there b o n := fun j hj =>
 ⟨by rw [blk_cell h (o + j)]; simp; omega, blk_frozen h _⟩
theorem copymsg_calls (x0 x1 : ByteArray) (A8 : Option Addr) (c8 : Nat) (x3 : Bool) (x4 : Int) (w : World) :
  Calls Tryz.prog 131 #[.agg #[.string x0, .string x1, .slice A8 0 c8, .bool x3, .int .i64 x4]] w fun e w' => ∃ A c, e = .returned (.agg #[.string x0, .string x1, .slice A 0 c, .bool x3, .int .i64 x4]) ∧ Below w.heap.size w w' := by
 have HB1 : Aside0 (((w.alloc (.cells #[.string x0, .string x1, .slice A8 0 c8, .bool x3, .int .i64 x4] 62)).alloc (.cells #[.string ⟨#[]⟩, .string ⟨#[]⟩, .slice none 0 0, .bool false, .int .i64 0] 62)).heap[w.heap.size]? = some (.cells #[.string x0, .string x1, .slice A8 0 c8, .bool x3, .int .i64 x4] 62 (0, 0))) := ⟨blk_alloc (heap_alloc_new w _) _⟩
 have HB2 : Aside0 (((w.alloc (.cells #[.string x0, .string x1, .slice A8 0 c8, .bool x3, .int .i64 x4] 62)).alloc (.cells #[.string ⟨#[]⟩, .string ⟨#[]⟩, .slice none 0 0, .bool false, .int .i64 0] 62)).heap[w.heap.size + 1]? = some (.cells #[.string ⟨#[]⟩, .string ⟨#[]⟩, .slice none 0 0, .bool false, .int .i64 0] 62 (0, 0))) := ⟨by have := heap_alloc_new (w.alloc (.cells #[.string x0, .string x1, .slice A8 0 c8, .bool x3, .int .i64 x4] 62)) (.cells #[.string ⟨#[]⟩, .string ⟨#[]⟩, .slice none 0 0, .bool false, .int .i64 0] 62); rwa [World.size_alloc] at this⟩
 have HBW := Amk (bal (bal (Below.refl w.heap.size w) (.cells #[.string x0, .string x1, .slice A8 0 c8, .bool x3, .int .i64 x4] 62)) (.cells #[.string ⟨#[]⟩, .string ⟨#[]⟩, .slice none 0 0, .bool false, .int .i64 0] 62))
 go_enter Tryz.func131, Tryz.ntmps131
 go_upto_region 1 with fail
 generalize (w.alloc (.cells #[.string x0, .string x1, .slice A8 0 c8, .bool x3, .int .i64 x4] 62)).alloc (.cells #[.string ⟨#[]⟩, .string ⟨#[]⟩, .slice none 0 0, .bool false, .int .i64 0] 62) = W0 at *
 have cp := (blk_cell (blk_alloc HB1.out (.cells #[] 181)) 2).trans (show _ = some (Value.slice A8 0 c8) from rfl)
 go_wp2_with (first
  | ((with_reducible refine gate_builtin (b := .append) (xs := #[.tmp 3, .tmp 5]) rfl ?_); at_builtin; refine Kd.R_append_rows K.k181 (Rr := fun _ _ => False) (w0 := W0) W0.heap.size rfl (.tmp 3) (.tmp 5) 60 181 _ 56 rfl Tryz.underlying60 info181 rfl (by decide) (by decide) (.slice (some ⟨W0.heap.size, 0, none⟩) 0 0) [] [] A8 0 c8 (fun _ => True) (fun _ => False) rfl rfl (R_empty K.k181 W0 W0.heap.size 181 (Nat.le_refl _)) ⟨rfl, by simp, fun h => absurd h (Nat.lt_irrefl 0)⟩ (fun _ _ h => h.elim) (fun _ hk => hk.elim) (fun _ _ => trivial) (bal (Below.refl _ _) _) (by simp) (by simp) ?_; intro v1 w1 hr hb hg hat; have HBA := Amk hb; obtain ⟨A9, c9, hv⟩ := Kd.R_slice hr; simp only [List.append_nil, List.length_nil] at hv; subst hv; clear hr hb hg hat; have z2 := blk_frozen ((HBA.out.block _ (blk_lt HB1.out)).trans HB1.out) 2; have u2 := (blk_cell ((HBA.out.block _ (blk_lt HB1.out)).trans HB1.out) 2).trans (show _ = some (Value.slice A8 0 c8) from rfl); have HB3 : Aside0 ((w1.setCell ⟨w.heap.size, 2, none⟩ (.slice A9 0 c9)).heap[w.heap.size]? = some (.cells #[.string x0, .string x1, .slice A9 0 c9, .bool x3, .int .i64 x4] 62 (0, 0))) := ⟨by simpa using blk_set ((HBA.out.block _ (blk_lt HB1.out)).trans HB1.out) 2 (.slice A9 0 c9)⟩; have HB4 : Aside0 ((w1.setCell ⟨w.heap.size, 2, none⟩ (.slice A9 0 c9)).heap[w.heap.size + 1]? = some (.cells #[.string ⟨#[]⟩, .string ⟨#[]⟩, .slice none 0 0, .bool false, .int .i64 0] 62 (0, 0))) := ⟨blk_far ((HBA.out.block _ (blk_lt HB2.out)).trans HB2.out) (by simp) _⟩)
  | ((with_reducible refine gate_dst (N := 8) rfl ?_); refine wpList_load_row rfl 62 (.tmp 1) rfl w.heap.size rfl 62 #[.string x0, .string x1, .slice A9 0 c9, .bool x3, .int .i64 x4] (0, 0) _ HB3.out Tryz.underlying62 rfl (by kernel_rfl) ?_)
  | ((with_reducible refine gate_store (t := 62) (p := 2) rfl ?_); refine wpList_store_blk 62 (.tmp 2) (.tmp 8) rfl rfl rfl (g := (w.heap.size + 1)) (e := 62) (.agg #[.string x0, .string x1, .slice A9 0 c9, .bool x3, .int .i64 x4]) [.string x0, .string x1, .slice A9 0 c9, .bool x3, .int .i64 x4] rfl rfl rfl HB4.out (by kernel_rfl) rfl (by simp [mqCells, Value.oneCell']) ?_; intro W3 hw; have HW3 := Amk hw; clear hw))
 refine bodyPost_ret (results_cell_row rfl _ _ (w.heap.size + 1) 62 #[.string x0, .string x1, .slice A9 0 c9, .bool x3, .int .i64 x4] (0, 0) _ rfl HW3.out.blk Tryz.underlying62 rfl (by kernel_rfl)) rfl ?_
 exact ⟨A9, c9, rfl, HW3.out.below (below_set (below_then HBW.out HBW.out.size HBA.out) (Nat.le_refl _)) (Nat.le_trans HBW.out.size (Nat.le_trans HBA.out.size (by simp [World.setCell]))) (Nat.le_succ _)⟩
theorem copyops_calls (A : Option Addr) (n c : Nat) (xs : List BOp) (w : World) (hC : kOp.C w A n xs) (hn : n ≤ 1048576) :
  Calls Tryz.prog 77 #[.slice A n c] w fun e w' => ∃ v, e = .returned v ∧ kOp.R 64 w' w.heap.size (fun _ => True) v xs ∧ Below w.heap.size w w' := by
 have HC := Amk hC
 have HN : Aside0 (xs.length = n) := ⟨hC.1⟩
 clear hC
 go_enter Tryz.func77, Tryz.ntmps77
 go_wp2_with fail
 go_loopg [8, 3] n (fun kq v8 v3 wx => ∃ (i : Nat) (A2 : Option Addr) (n2 c2 : Nat), v8 = .int .i64 (i : Nat) ∧ v3 = .slice A2 n2 c2 ∧ i + kq = n ∧ Aside0 (Below w.heap.size w wx) ∧ Aside0 (kOp.R 64 wx w.heap.size (fun _ => True) (.slice A2 n2 c2) (xs.take i)))
 case atStart => exact ⟨0, _, _, _, rfl, rfl, by omega, ⟨Below.refl _ _⟩, ⟨Kd.R_nil _ _ _ _ _⟩⟩
 case round =>
  obtain ⟨i, A2, n2, c2, rfl, rfl, hi, HB, HR⟩ := hrel
  cases gk with
  | zero =>
   have hge : decide ((i : Int) < (n : Int)) = false := decide_eq_false (by omega)
   have hge2 : decide (i < n) = false := decide_eq_false (by omega)
   have HRA : Aside0 (kOp.R 64 wr w.heap.size (fun _ => True) (.slice A2 n2 c2) xs) := ⟨by have := HR.out; rwa [List.take_of_length_le (by have := HN.out; omega)] at this⟩
   go_wp2_with fail
   go_ret
   exact ⟨_, rfl, HRA.out, HB.out⟩
  | succ g =>
   have hlt : decide ((i : Int) < (n : Int)) = true := decide_eq_true (by omega)
   have hlt2 : decide (i < n) = true := decide_eq_true (by omega)
   have hib : i < 1048576 := by omega
   have hil : i < xs.length := by have := HN.out; omega
   obtain ⟨ad, cs, rfl, _, hK, hcc⟩ := Kd.C_get (Kd.C_below HC.out HB.out) zOp (i : Int) (by omega) (by omega)
   simp only [Int.toNat_natCast] at hcc hK
   obtain ⟨x, hx⟩ : ∃ x, xs.getD i zOp = x := ⟨_, rfl⟩
   have HTK : Aside0 (xs.take (i + 1) = xs.take i ++ [x]) := ⟨by rw [List.take_succ_eq_append_getElem hil]; congr 2; rw [← hx]; simp [hil]⟩
   rw [hx] at hK
   obtain ⟨A8, c8, rfl⟩ := hK
   clear hx
   obtain ⟨k0, k1, k2, k3, k4, k5, k6, k7, k8, k9, k10, k11, k12⟩ := x
   have HRG : Aside0 (∀ q u, [.int .i64 k0, .int .i64 k1, .int .i64 k2, .int .i64 k3, .string k4, .string k5, .bool k6, .bool k7, .bool k8, .string k9, .string k10, .slice A8 0 c8, .bool k11, .int .i64 k12][q]? = some u → wr.cell? ((ad.add (i * 14)).add q) = some u) := ⟨fun q u hu => by rw [add_add]; exact hcc q u hu⟩
   have HRN : Aside0 (kOp.R 64 wr w.heap.size (fun k => True ∧ some k ≠ some wr.heap.size) (.slice A2 n2 c2) (xs.take i)) := ⟨Kd.R_mono (Kd.R_bound HR.out) (fun k hk => ⟨trivial, fun e => by injection e with e; have := hk.2.2.1; omega⟩)⟩
   have HBB := Amk HB.out.size
   clear hcc
   go_upto_region 6 with (first
    | ((with_reducible refine gate_dst (N := 11) rfl ?_); refine wpList_load_at rfl 64 (.tmp 10) rfl (ad.add (i * 14)) rfl [.int .i64 k0, .int .i64 k1, .int .i64 k2, .int .i64 k3, .string k4, .string k5, .bool k6, .bool k7, .bool k8, .string k9, .string k10, .slice A8 0 c8, .bool k11, .int .i64 k12] _ HRG.out Tryz.underlying64 rfl (by kernel_rfl) ?_)
    | ((with_reducible refine gate_store (t := 64) (p := 5) rfl ?_); refine wpList_store_blk 64 (.tmp 5) (.tmp 11) rfl rfl rfl (g := wr.heap.size) (e := 64) (.agg #[.int .i64 k0, .int .i64 k1, .int .i64 k2, .int .i64 k3, .string k4, .string k5, .bool k6, .bool k7, .bool k8, .string k9, .string k10, .slice A8 0 c8, .bool k11, .int .i64 k12]) [.int .i64 k0, .int .i64 k1, .int .i64 k2, .int .i64 k3, .string k4, .string k5, .bool k6, .bool k7, .bool k8, .string k9, .string k10, .slice A8 0 c8, .bool k11, .int .i64 k12] rfl rfl rfl (heap_alloc_new wr _) (by kernel_rfl) rfl (by simp [mqCells, Value.oneCell']) ?_; intro W3 hw; have HB3 := Amk (below_then HB.out HB.out.size (hw.below (bal (Below.refl wr.heap.size wr) _) (by simp) (Nat.le_refl _))); have HX3 := Amk hw.blk; have HR3 := Amk (Kd.R_below HRN.out (hw.below (bal (Below.refl wr.heap.size wr) _) (by simp) (Nat.le_refl _))); generalize wr.heap.size = b5 at *; clear hw)
    | ((with_reducible refine gate_dst (N := 13) rfl ?_); refine wpList_load_at rfl 62 (.tmp 12) rfl ⟨b5, 9, none⟩ rfl [.string k9, .string k10, .slice A8 0 c8, .bool k11, .int .i64 k12] _ (RowAt.mid HX3.out 9 rfl) Tryz.underlying62 rfl (by kernel_rfl) ?_)
    | (go_at_call 131; refine Calls.mono (copymsg_calls k9 k10 A8 c8 k11 k12 _) ?_; rintro e4 w4 ⟨A9, c9, rfl, hb⟩; have HB4 := Amk (below_then HB3.out HB3.out.size hb); have HX4 := Amk ((hb.block _ (blk_lt HX3.out)).trans HX3.out); have HR4 := Amk (Kd.R_below HR3.out hb); clear hb)
    | ((with_reducible refine gate_store (t := 62) (p := 15) rfl ?_); refine wpList_store_mid rfl 62 (.tmp 15) (.tmp 14) rfl b5 9 #[.string k9, .string k10, .slice A9 0 c9, .bool k11, .int .i64 k12] rfl rfl (there_blk HX4.out 9 5 (Nat.le_refl 14)) (by kernel_rfl) (by simp [Value.oneCell']) ?_; have HX5 : Aside0 ((w4.setCells b5 9 [.string k9, .string k10, .slice A9 0 c9, .bool k11, .int .i64 k12]).heap[b5]? = some (.cells #[.int .i64 k0, .int .i64 k1, .int .i64 k2, .int .i64 k3, .string k4, .string k5, .bool k6, .bool k7, .bool k8, .string k9, .string k10, .slice A9 0 c9, .bool k11, .int .i64 k12] 64 (0, 0))) := ⟨by simpa [wrAt] using setCells_at [.string k9, .string k10, .slice A9 0 c9, .bool k11, .int .i64 k12] 9 w4 _ HX4.out⟩; have HB5 : Aside0 (Below w.heap.size w (w4.setCells b5 9 [.string k9, .string k10, .slice A9 0 c9, .bool k11, .int .i64 k12])) := ⟨HB4.out.grown (setCells_grown b5 _ 9 w4) HB4.out.size (fun k hk => by cases hk; exact HBB.out)⟩; have HR5 : Aside0 (kOp.R 64 (w4.setCells b5 9 [.string k9, .string k10, .slice A9 0 c9, .bool k11, .int .i64 k12]) w.heap.size (fun _ => True) (.slice A2 n2 c2) (xs.take i)) := ⟨Kd.R_mono (Kd.R_grown HR4.out (setCells_grown b5 _ 9 w4) (fun k hk => hk.2)) (fun _ _ => trivial)⟩))
   generalize w4.setCells b5 9 [.string k9, .string k10, .slice A9 0 c9, .bool k11, .int .i64 k12] = w5 at *
   go_wp2_with (first
    | ((with_reducible refine gate_dst (N := 17) rfl ?_); refine wpList_load_row rfl 64 (.tmp 5) rfl b5 rfl 64 #[.int .i64 k0, .int .i64 k1, .int .i64 k2, .int .i64 k3, .string k4, .string k5, .bool k6, .bool k7, .bool k8, .string k9, .string k10, .slice A9 0 c9, .bool k11, .int .i64 k12] (0, 0) _ HX5.out Tryz.underlying64 rfl (by kernel_rfl) ?_)
    | ((with_reducible refine gate_builtin (b := .append) (xs := #[.tmp 16, .tmp 18]) rfl ?_); at_builtin; refine Kd.R_append kOp (w0 := w) w.heap.size rfl (.tmp 16) (.tmp 18) 42 64 _ 144 rfl Tryz.underlying42 info64 rfl (by decide) (by decide) (.slice A2 n2 c2) (xs.take i) ⟨k0, k1, k2, k3, k4, k5, k6, k7, k8, k9, k10, k11, k12⟩ [.int .i64 k0, .int .i64 k1, .int .i64 k2, .int .i64 k3, .string k4, .string k5, .bool k6, .bool k7, .bool k8, .string k9, .string k10, .slice A9 0 c9, .bool k11, .int .i64 k12] (fun _ => True) (fun k => True ∧ some k ≠ (Value.slice A2 n2 c2).ownBlock) rfl rfl ⟨A9, c9, rfl⟩ (fun _ hk => hk) (fun _ _ => trivial) HR5.out HB5.out HB5.out.size (by rw [List.length_take]; omega) ?_; intro v2 w6 hR hB hG hat; have HR6 := Amk hR; have HB6 := Amk hB; clear hR hB hG hat; obtain ⟨A6, n6, c6, rfl, _⟩ := R_parts HR6.out))
   rw [← HTK.out] at HR6
   go_roundg g
   case rel => exact ⟨i + 1, A6, n6, c6, by go_num, rfl, by omega, HB6, HR6⟩
   case measure => omega
theorem copymq_calls (s : Mq) (AW : Option Addr) (cW : Nat) (AC : Option Addr) (cC : Nat) (w : World) (h : MqIn w s AW cW AC cC) :
  Calls Tryz.prog 32 #[mqAgg s AW cW AC cC] w fun e w' => ∃ vW vC, e = .returned (.agg (mqCells s vW vC)) ∧ kOp.R 64 w' w.heap.size (fun _ => True) vW s.will ∧ (Kd.int .i64).R 3 w' w.heap.size (fun _ => True) vC s.codes ∧ Below w.heap.size w w' := by
 have HW : Aside0 (∀ W, Below w.heap.size w W → Calls Tryz.prog 77 #[.slice AW s.will.length cW] W fun e w' => ∃ v, e = .returned v ∧ kOp.R 64 w' W.heap.size (fun _ => True) v s.will ∧ Below W.heap.size W w') := ⟨fun W hW => copyops_calls AW _ cW s.will W (Kd.C_below h.will hW) h.wl⟩
 have HC := Amk h.codes
 have HCL := Amk h.cl
 clear h
 obtain ⟨rest, up, down, client, clean, will, codes⟩ := s
 simp only [mqAgg, mqCells] at *
 generalize will.length = nW at *
 obtain ⟨nC, hnC⟩ : ∃ nC, codes.length = nC := ⟨_, rfl⟩
 rw [hnC] at HC HCL ⊢
 have HX0 : Aside0 (((w.alloc (.cells #[.string rest, .bool up, .bool down, .string client, .bool clean, .slice AW nW cW, .slice AC nC cC] 45)).alloc (.cells #[.string ⟨#[]⟩, .bool false, .bool false, .string ⟨#[]⟩, .bool false, .slice none 0 0, .slice none 0 0] 45)).heap[w.heap.size]? = some (.cells #[.string rest, .bool up, .bool down, .string client, .bool clean, .slice AW nW cW, .slice AC nC cC] 45 (0, 0))) := ⟨blk_alloc (heap_alloc_new w _) _⟩
 have HY0 : Aside0 (((w.alloc (.cells #[.string rest, .bool up, .bool down, .string client, .bool clean, .slice AW nW cW, .slice AC nC cC] 45)).alloc (.cells #[.string ⟨#[]⟩, .bool false, .bool false, .string ⟨#[]⟩, .bool false, .slice none 0 0, .slice none 0 0] 45)).heap[w.heap.size + 1]? = some (.cells #[.string ⟨#[]⟩, .bool false, .bool false, .string ⟨#[]⟩, .bool false, .slice none 0 0, .slice none 0 0] 45 (0, 0))) := ⟨by have := heap_alloc_new (w.alloc (.cells #[.string rest, .bool up, .bool down, .string client, .bool clean, .slice AW nW cW, .slice AC nC cC] 45)) (.cells #[.string ⟨#[]⟩, .bool false, .bool false, .string ⟨#[]⟩, .bool false, .slice none 0 0, .slice none 0 0] 45); rwa [World.size_alloc] at this⟩
 have HB0 := Amk (bal (bal (Below.refl w.heap.size w) (.cells #[.string rest, .bool up, .bool down, .string client, .bool clean, .slice AW nW cW, .slice AC nC cC] 45)) (.cells #[.string ⟨#[]⟩, .bool false, .bool false, .string ⟨#[]⟩, .bool false, .slice none 0 0, .slice none 0 0] 45))
 have HS0 : Aside0 (((w.alloc (.cells #[.string rest, .bool up, .bool down, .string client, .bool clean, .slice AW nW cW, .slice AC nC cC] 45)).alloc (.cells #[.string ⟨#[]⟩, .bool false, .bool false, .string ⟨#[]⟩, .bool false, .slice none 0 0, .slice none 0 0] 45)).heap.size = w.heap.size + 2) := ⟨by simp⟩
 go_enter Tryz.func32, Tryz.ntmps32
 go_upto_region 1 with fail
 generalize (w.alloc (.cells #[.string rest, .bool up, .bool down, .string client, .bool clean, .slice AW nW cW, .slice AC nC cC] 45)).alloc (.cells #[.string ⟨#[]⟩, .bool false, .bool false, .string ⟨#[]⟩, .bool false, .slice none 0 0, .slice none 0 0] 45) = W0 at *
 have q5 := (blk_cell HX0.out 5).trans (show _ = some (Value.slice AW nW cW) from rfl)
 go_upto_region 2 with (go_at_call 77; refine Calls.mono (HW.out _ HB0.out) ?_; rintro e1 w1 ⟨v1, rfl, hr, hb⟩; have hsz := HS0.out; have hsz1 := hb.size; have HR1 := Amk (Kd.R_lower hr (base' := w.heap.size) (by omega)); have HB1 := Amk (below_then HB0.out (by omega) hb); have HX1 := Amk ((hb.block _ (blk_lt HX0.out)).trans HX0.out); have HY1 := Amk ((hb.block _ (blk_lt HY0.out)).trans HY0.out); have HS1 := Amk (show w.heap.size + 2 ≤ w1.heap.size by omega); clear hr hb hsz hsz1; obtain ⟨A1, n1, c1, rfl, _⟩ := R_parts HR1.out; have z5 := blk_frozen HX1.out 5; have u5 := (blk_cell HX1.out 5).trans (show _ = some (Value.slice AW nW cW) from rfl))
 have HX2 : Aside0 ((w1.setCell ⟨w.heap.size, 5, none⟩ (.slice A1 n1 c1)).heap[w.heap.size]? = some (.cells #[.string rest, .bool up, .bool down, .string client, .bool clean, .slice A1 n1 c1, .slice AC nC cC] 45 (0, 0))) := ⟨by simpa using blk_set HX1.out 5 (.slice A1 n1 c1)⟩
 have HY2 := Amk (blk_far HY1.out (p := ⟨w.heap.size, 5, none⟩) (by simp) (.slice A1 n1 c1))
 have HB2 : Aside0 (Below w.heap.size w (w1.setCell ⟨w.heap.size, 5, none⟩ (.slice A1 n1 c1))) := ⟨below_set HB1.out (Nat.le_refl _)⟩
 have HR2 : Aside0 (kOp.R 64 (w1.setCell ⟨w.heap.size, 5, none⟩ (.slice A1 n1 c1)) w.heap.size (fun _ => True) (.slice A1 n1 c1) will) := ⟨Kd.R_set HR1.out HX1.out (by decide) 5 _⟩
 have HS2 : Aside0 (w.heap.size + 2 ≤ (w1.setCell ⟨w.heap.size, 5, none⟩ (.slice A1 n1 c1)).heap.size) := ⟨by have := HS1.out; simpa [World.setCell] using this⟩
 generalize w1.setCell ⟨w.heap.size, 5, none⟩ (.slice A1 n1 c1) = W2 at *
 clear z5 u5 q5 HX0 HY0 HX1 HY1 HB1 HR1 HS1
 have q6 := (blk_cell (blk_alloc HX2.out (.cells #[] 3)) 6).trans (show _ = some (Value.slice AC nC cC) from rfl)
 have HC2 := Amk (Kd.C_below HC.out (bal HB2.out (.cells #[] 3)))
 go_upto_region 3 with ((with_reducible refine gate_builtin (b := .append) (xs := #[.tmp 7, .tmp 9]) rfl ?_); at_builtin; refine Kd.R_append_rows (Kd.int .i64) (Rr := (Kd.int .i64).K _) (w0 := W2) W2.heap.size rfl (.tmp 7) (.tmp 9) 43 3 _ 8 rfl Tryz.underlying43 info3 rfl (by decide) (by decide) (.slice (some ⟨W2.heap.size, 0, none⟩) 0 0) [] codes AC nC cC (fun _ => True) (fun _ => False) rfl rfl (R_empty (Kd.int .i64) W2 W2.heap.size 3 (Nat.le_refl _)) HC2.out (fun _ _ h => h) (fun _ hk => hk.elim) (fun _ _ => trivial) (bal (Below.refl _ _) _) (by simp) (by have := HCL.out; simp only [List.length_nil]; omega) ?_; intro v3 w3 hr hb hg hat; have HR3 := Amk hr; have HB3' := Amk hb; have HB3 := Amk (below_then HB2.out HB2.out.size hb); have HX3 := Amk ((hb.block _ (blk_lt HX2.out)).trans HX2.out); have HY3 := Amk ((hb.block _ (blk_lt HY2.out)).trans HY2.out); have HRW3 := Amk (Kd.R_below HR2.out hb); clear hr hb hg hat; obtain ⟨A3, n3, c3, rfl, _⟩ := R_parts HR3.out; have z6 := blk_frozen HX3.out 6; have u6 := (blk_cell HX3.out 6).trans (show _ = some (Value.slice AC nC cC) from rfl))
 have HX4 : Aside0 ((w3.setCell ⟨w.heap.size, 6, none⟩ (.slice A3 n3 c3)).heap[w.heap.size]? = some (.cells #[.string rest, .bool up, .bool down, .string client, .bool clean, .slice A1 n1 c1, .slice A3 n3 c3] 45 (0, 0))) := ⟨by simpa using blk_set HX3.out 6 (.slice A3 n3 c3)⟩
 have HY4 := Amk (blk_far HY3.out (p := ⟨w.heap.size, 6, none⟩) (by simp) (.slice A3 n3 c3))
 have HB4 : Aside0 (Below w.heap.size w (w3.setCell ⟨w.heap.size, 6, none⟩ (.slice A3 n3 c3))) := ⟨below_set HB3.out (Nat.le_refl _)⟩
 have HRW4 : Aside0 (kOp.R 64 (w3.setCell ⟨w.heap.size, 6, none⟩ (.slice A3 n3 c3)) w.heap.size (fun _ => True) (.slice A1 n1 c1) will) := ⟨Kd.R_set HRW3.out HX3.out (by decide) 6 _⟩
 have HRC4 : Aside0 ((Kd.int .i64).R 3 (w3.setCell ⟨w.heap.size, 6, none⟩ (.slice A3 n3 c3)) w.heap.size (fun _ => True) (.slice A3 n3 c3) codes) := ⟨Kd.R_set (Kd.R_lower (by simpa using HR3.out) HB2.out.size) HX3.out (by decide) 6 _⟩
 generalize w3.setCell ⟨w.heap.size, 6, none⟩ (.slice A3 n3 c3) = W4 at *
 clear z6 u6 q6 HX2 HY2 HB2 HR2 HX3 HY3 HB3 HRW3 HR3 HB3' HC2
 go_wp2_with (first
  | ((with_reducible refine gate_dst (N := 12) rfl ?_); refine wpList_load_row rfl 45 (.tmp 1) rfl w.heap.size rfl 45 #[.string rest, .bool up, .bool down, .string client, .bool clean, .slice A1 n1 c1, .slice A3 n3 c3] (0, 0) _ HX4.out Tryz.underlying45 rfl (by kernel_rfl) ?_)
  | ((with_reducible refine gate_store (t := 45) (p := 2) rfl ?_); refine wpList_store_blk 45 (.tmp 2) (.tmp 12) rfl rfl rfl (g := (w.heap.size + 1)) (e := 45) (.agg #[.string rest, .bool up, .bool down, .string client, .bool clean, .slice A1 n1 c1, .slice A3 n3 c3]) [.string rest, .bool up, .bool down, .string client, .bool clean, .slice A1 n1 c1, .slice A3 n3 c3] rfl rfl rfl HY4.out (by kernel_rfl) rfl (by simp [mqCells, Value.oneCell']) ?_; intro W3 hw; have HW6 := Amk hw; clear hw))
 refine bodyPost_ret (results_cell_row rfl _ _ (w.heap.size + 1) 45 #[.string rest, .bool up, .bool down, .string client, .bool clean, .slice A1 n1 c1, .slice A3 n3 c3] (0, 0) _ rfl HW6.out.blk Tryz.underlying45 rfl (by kernel_rfl)) rfl ?_
 exact ⟨_, _, rfl, R_wrote HRW4.out HW6.out HY4.out (by decide), R_wrote HRC4.out HW6.out HY4.out (by decide), HW6.out.below HB4.out HB4.out.size (Nat.le_succ _)⟩
end Go.Proofs.YtednegmjjjdinaaGreatDoor.Ext
