/- Texts of this claim's author, joined and pruned by a program of his (pack.py): Lj, Lk, Ly. -/
import Derived.Test.YtednegmjjjdinaaGreatDoorP0
import Derived.Test.YtednegmjjjdinaaGreatDoorP1
import Derived.Test.YtednegmjjjdinaaGreatDoorP2
import Derived.Test.YtednegmjjjdinaaGreatDoorP3
import Derived.Test.YtednegmjjjdinaaGreatDoorP4
import Derived.Test.YtednegmjjjdinaaGreatDoorP5
import Derived.Test.YtednegmjjjdinaaGreatDoorP7
import Derived.Test.YtednegmjjjdinaaGreatDoorP10
import Derived.Test.YtednegmjjjdinaaGreatDoorP11
import Derived.Test.YtednegmjjjdinaaGreatDoorP12
import Derived.Test.YtednegmjjjdinaaGreatDoorP13
import Derived.Test.YtednegmjjjdinaaGreatDoorP14
import Derived.Test.YtednegmjjjdinaaGreatDoorP15
import Derived.Test.YtednegmjjjdinaaGreatDoorP16
import Derived.Test.YtednegmjjjdinaaGreatDoorP17
import Derived.Test.YtednegmjjjdinaaGreatDoorP18
set_option maxRecDepth 100000
set_option maxHeartbeats 4000000
open Go.Proofs.YtednegmjjjdinaaGreatDoorW.PrintWords renaming blk_cell → bqc, below_alloc → bal, below_then → bth
open List renaming getElem_toArray → Lga, getElem_cons_zero → Lgz, getElem_cons_succ → Lgs, setIfInBounds_toArray → Lsa, set_cons_zero → Lsz, set_cons_succ → Lss
open Go.Proofs.YtednegmjjjdinaaGreatDoorW.PrintWords.Aside0 renaming mk → Amk
namespace Go.Proofs.YtednegmjjjdinaaGreatDoor.Ext
open Go.RowKit Go.Proofs.YtednegmjjjdinaaGreatDoorW.PrintWords Go.Proofs.YtednegmjjjdinaaGreatDoorW.PrintLast Go.Proofs.YtednegmjjjdinaaGreatDoorW.PrintMore
set_option linter.unusedVariables false
set_option linter.unusedSimpArgs false
def kz : Array Value := #[.int .i64 0, .int .i64 0, .int .i64 0, .int .i64 0, .string ⟨#[]⟩, .string ⟨#[]⟩, .bool false, .bool false, .bool false, .string ⟨#[]⟩, .string ⟨#[]⟩, .slice none 0 0, .bool false, .int .i64 0]
def RowAt (cs : List Value) (p : Addr) (W : World) : Prop := ∀ q u, cs[q]? = some u → W.cell? (p.add q) = some u
theorem RowAt.below {cs : List Value} {p : Addr} {W W1 : World} (h : RowAt cs p W) (hb : Below W.heap.size W W1) : RowAt cs p W1 := fun q u hu => (hb.cell (World.block_lt_of_cell? W _ (h q u hu))).trans (h q u hu)
theorem RowAt.mid {W : World} {b t : Nat} {cs : Array Value} {ds : List Value} (h : W.heap[b]? = some (.cells cs t (0, 0))) (k : Nat) (hd : (cs.toList.drop k).take ds.length = ds) : RowAt ds ⟨b, k, none⟩ W := by
 intro q u hu
 have hq : q < ds.length := by
  rcases Nat.lt_or_ge q ds.length with h1 | h1
  ·
   exact h1
  ·
   rw [List.getElem?_eq_none h1] at hu; cases hu
 rw [← hd, List.getElem?_take, if_pos hq, List.getElem?_drop, Array.getElem?_toList] at hu
 have e : (⟨b, k, none⟩ : Addr).add q = ⟨b, k + q, none⟩ := by
  unfold Addr.add
  by_cases h0 : q = 0 <;> simp [h0]
 rw [e]
 exact (bqc h (k + q)).trans hu
theorem exec_load_at {P : Program} {o : Oper} {a : Act} {w : World} (ty : TypeId) (x : Operand) (ho : o.op = .load ty x) (p : Addr) (hx : a.eval x = .pointer (some p)) (cs : List Value) (d : TypeDesc) (hc : RowAt cs p w)
  (hu : P.underlying ty = some d) (hd : d.isRow = true) (hi : (P.info? ty).map (·.size) = some cs.length) : (execOp a.eval o).run P w = .ok (.value (.agg cs.toArray)) w := by
 unfold execOp
 simp only [ho, hx, Instr.loadAt, Instr.sureAddr, Sem.run_bind, Sem.run_pure, Result.andThen_ok, run_loadVar_at w p ty cs d hc hu hd hi]
theorem sameall_calls (A B : Option Addr) (cA cB : Nat) (w : World) : Calls Tryz.prog 141 #[.slice A 0 cA, .slice B 0 cB] w fun e w' => e = .returned (.bool true) ∧ Below w.heap.size w w' := by
 have hge : decide ((0 : Int) < 0) = false := rfl
 go_enter Tryz.func141, Tryz.ntmps141
 go_wp2_with fail
 go_loopg [13] 0 (fun kq v13 wx => v13 = .int .i64 0 ∧ kq = 0 ∧ wx = w)
 case atStart => exact ⟨rfl, rfl, rfl⟩
 case round =>
  obtain ⟨rfl, hk, rfl⟩ := hrel
  subst hk
  go_wp2_with fail
  go_ret
  exact ⟨rfl, Below.refl _ _⟩
theorem samemsg_calls (A B : Option Addr) (cA cB : Nat) (b0 b1 : ByteArray) (b3 : Bool) (b4 : Int) (w : World) : Calls Tryz.prog 83 #[.agg #[.string b0, .string b1, .slice A 0 cA, .bool b3, .int .i64 b4], .agg #[.string b0, .string b1, .slice B 0 cB, .bool b3, .int .i64 b4]] w fun e w' => e = .returned (.bool true) ∧ Below w.heap.size w w' := by
 have HB2 := Amk (bal (bal (Below.refl w.heap.size w) (.cells #[.string b0, .string b1, .slice A 0 cA, .bool b3, .int .i64 b4] 62)) (.cells #[.string b0, .string b1, .slice B 0 cB, .bool b3, .int .i64 b4] 62))
 have hb : (b3 == b3) = true := by cases b3 <;> rfl
 go_enter Tryz.func83, Tryz.ntmps83
 go_wp2_with (go_at_call 141; refine Calls.mono (sameall_calls A B cA cB _) ?_; rintro e1 w1 ⟨rfl, hb⟩; have HB3 := Amk (bth HB2.out HB2.out.size hb); clear hb)
 go_ret
 exact ⟨rfl, HB3.out⟩
theorem sameops_calls (A B : Option Addr) (n cA cB : Nat) (xs : List BOp) (w : World) (hA : kOp.C w A n xs) (hB : kOp.C w B n xs) (hn : n ≤ 1048576) : Calls Tryz.prog 36 #[.slice A n cA, .slice B n cB] w fun e w' => e = .returned (.bool true) ∧ Below w.heap.size w w' := by
 have HA := Amk hA
 have HB := Amk hB
 have HN : Aside0 (xs.length = n) := ⟨hA.1⟩
 clear hA hB
 go_enter Tryz.func36, Tryz.ntmps36
 go_wp2_with fail
 go_loopg [15] n (fun kq v15 wx => ∃ i : Nat, v15 = .int .i64 (i : Nat) ∧ i + kq = n ∧ Aside0 (Below w.heap.size w wx))
 case atStart => exact ⟨0, rfl, by omega, ⟨Below.refl _ _⟩⟩
 case round =>
  obtain ⟨i, rfl, hi, HW⟩ := hrel
  cases gk with
  | zero =>
   have hge : decide ((i : Int) < (n : Int)) = false := decide_eq_false (by omega)
   have hge2 : decide (i < n) = false := decide_eq_false (by omega)
   go_wp2_with fail
   go_ret
   exact ⟨rfl, HW.out⟩
  | succ g =>
   have hlt : decide ((i : Int) < (n : Int)) = true := decide_eq_true (by omega)
   have hlt2 : decide (i < n) = true := decide_eq_true (by omega)
   have hib : i < 1048576 := by omega
   obtain ⟨ad, cs, rfl, _, hK, hcc⟩ := Kd.C_get (Kd.C_below HA.out HW.out) zOp (i : Int) (by omega) (by omega)
   obtain ⟨bd, ds, rfl, _, hL, hdd⟩ := Kd.C_get (Kd.C_below HB.out HW.out) zOp (i : Int) (by omega) (by omega)
   simp only [Int.toNat_natCast] at hcc hK hL hdd
   obtain ⟨x, hx⟩ : ∃ x, xs.getD i zOp = x := ⟨_, rfl⟩
   rw [hx] at hK hL
   obtain ⟨P, cP, rfl⟩ := (show ∃ A c, cs = opCells x A c from hK)
   obtain ⟨R, cR, rfl⟩ := (show ∃ A c, ds = opCells x A c from hL)
   obtain ⟨k0, k1, k2, k3, s4, s5, p6, p7, p8, s9, s10, p12, k13⟩ := x
   have HRA : Aside0 (∀ q u, [.int .i64 k0, .int .i64 k1, .int .i64 k2, .int .i64 k3, .string s4, .string s5, .bool p6, .bool p7, .bool p8, .string s9, .string s10, .slice P 0 cP, .bool p12, .int .i64 k13][q]? = some u → wr.cell? ((ad.add (i * 14)).add q) = some u) := ⟨fun q u hu => by rw [add_add]; exact hcc q u hu⟩
   have HRB : Aside0 (∀ q u, [.int .i64 k0, .int .i64 k1, .int .i64 k2, .int .i64 k3, .string s4, .string s5, .bool p6, .bool p7, .bool p8, .string s9, .string s10, .slice R 0 cR, .bool p12, .int .i64 k13][q]? = some u → wr.cell? ((bd.add (i * 14)).add q) = some u) := ⟨fun q u hu => by rw [add_add]; exact hdd q u hu⟩
   clear hcc hdd hK hL hx
   have hin : i < n := by omega
   have h6 : (p6 == p6) = true := by cases p6 <;> rfl
   have h7 : (p7 == p7) = true := by cases p7 <;> rfl
   have h8 : (p8 == p8) = true := by cases p8 <;> rfl
   go_upto_region 6 with fail
   go_cut [6, 7] (fun s6 s7 wx => ∃ bx bz, s6 = .pointer (some ⟨bx, 0, none⟩) ∧ s7 = .pointer (some ⟨bz, 0, none⟩) ∧ Aside0 (Below wr.heap.size wr wx) ∧ Aside0 (wx.heap[bx]? = some (.cells #[.int .i64 k0, .int .i64 k1, .int .i64 k2, .int .i64 k3, .string s4, .string s5, .bool p6, .bool p7, .bool p8, .string s9, .string s10, .slice P 0 cP, .bool p12, .int .i64 k13] 64 (0, 0))) ∧ Aside0 (wx.heap[bz]? = some (.cells #[.int .i64 k0, .int .i64 k1, .int .i64 k2, .int .i64 k3, .string s4, .string s5, .bool p6, .bool p7, .bool p8, .string s9, .string s10, .slice R 0 cR, .bool p12, .int .i64 k13] 64 (0, 0))))
   case first =>
    refine wp_region_held_drew (S := fun W => RowAt [.int .i64 k0, .int .i64 k1, .int .i64 k2, .int .i64 k3, .string s4, .string s5, .bool p6, .bool p7, .bool p8, .string s9, .string s10, .slice P 0 cP, .bool p12, .int .i64 k13] (ad.add (i * 14)) W ∧ RowAt [.int .i64 k0, .int .i64 k1, .int .i64 k2, .int .i64 k3, .string s4, .string s5, .bool p6, .bool p7, .bool p8, .string s9, .string s10, .slice R 0 cR, .bool p12, .int .i64 k13] (bd.add (i * 14)) W) (by kernel_rfl) ⟨HRA.out, HRB.out⟩ (fun hHeld => ?_)
    refine tkH 0 ?_ hHeld ?_ ?_; rotate_left; (focus intro w_ hSw; (try dsimp only at hSw); go_simp; (try simp only [hSw]); (try rfl)); rotate_left; try simp only [Lga, Lgz, Lgs, Act.put, Lsa, Lsz, Lss]
    refine tkH 1 ?_ hHeld ?_ ?_; rotate_left; (focus intro w_ hSw; (try dsimp only at hSw); go_simp; (try simp only [hSw]); (try rfl)); rotate_left; try simp only [Lga, Lgz, Lgs, Act.put, Lsa, Lsz, Lss]
    refine tkH 2 ((.pointer (some (ad.add (i * 14))))) hHeld ?_ ?_; (focus intro w_ hSw; go_simp; (try rw [if_pos hin])); try simp only [Lga, Lgz, Lgs, Act.put, Lsa, Lsz, Lss]
    refine tkH 3 (.agg #[.int .i64 k0, .int .i64 k1, .int .i64 k2, .int .i64 k3, .string s4, .string s5, .bool p6, .bool p7, .bool p8, .string s9, .string s10, .slice P 0 cP, .bool p12, .int .i64 k13]) hHeld ?_ ?_; (focus intro w_ hSw; exact exec_load_at 64 (.tmp 20) rfl (ad.add (i * 14)) rfl [.int .i64 k0, .int .i64 k1, .int .i64 k2, .int .i64 k3, .string s4, .string s5, .bool p6, .bool p7, .bool p8, .string s9, .string s10, .slice P 0 cP, .bool p12, .int .i64 k13] _ hSw.1 Tryz.underlying64 rfl (by kernel_rfl)); try simp only [Lga, Lgz, Lgs, Act.put, Lsa, Lsz, Lss]
    trace_state
    refine tkH 4 ?_ hHeld ?_ ?_; rotate_left; (focus intro w_ hSw; (try dsimp only at hSw); go_simp; (try simp only [hSw]); (try rfl)); rotate_left; try simp only [Lga, Lgz, Lgs, Act.put, Lsa, Lsz, Lss]
    refine tkH 5 ?_ hHeld ?_ ?_; rotate_left; (focus intro w_ hSw; (try dsimp only at hSw); go_simp; (try simp only [hSw]); (try rfl)); rotate_left; try simp only [Lga, Lgz, Lgs, Act.put, Lsa, Lsz, Lss]
    refine tkH 6 ((.pointer (some (bd.add (i * 14))))) hHeld ?_ ?_; (focus intro w_ hSw; go_simp; (try rw [if_pos hin])); try simp only [Lga, Lgz, Lgs, Act.put, Lsa, Lsz, Lss]
    refine tkH 7 (.agg #[.int .i64 k0, .int .i64 k1, .int .i64 k2, .int .i64 k3, .string s4, .string s5, .bool p6, .bool p7, .bool p8, .string s9, .string s10, .slice R 0 cR, .bool p12, .int .i64 k13]) hHeld ?_ ?_; (focus intro w_ hSw; exact exec_load_at 64 (.tmp 24) rfl (bd.add (i * 14)) rfl [.int .i64 k0, .int .i64 k1, .int .i64 k2, .int .i64 k3, .string s4, .string s5, .bool p6, .bool p7, .bool p8, .string s9, .string s10, .slice R 0 cR, .bool p12, .int .i64 k13] _ hSw.2 Tryz.underlying64 rfl (by kernel_rfl)); try simp only [Lga, Lgz, Lgs, Act.put, Lsa, Lsz, Lss]
    refine wpAnyH_ready (rs := [8, 9]) (by kernel_rfl) (by simp) ?_
    refine AllReadyH.cons rfl (fun K hK => ?_) (AllReadyH.cons rfl (fun K hK => ?_) AllReadyH.nil)
    ·
     go_simp
     have HB1 := Amk (bal (below_drew1 (Below.refl wr.heap.size wr)) (.cells kz 64))
     have HX1 := Amk (heap_alloc_new wr.drew (.cells kz 64))
     (first | refine hK.out _ _ ⟨RowAt.below HRA.out HB1.out, RowAt.below HRB.out HB1.out⟩ (fun hHeld => ?_) | refine hK _ _ ⟨RowAt.below HRA.out HB1.out, RowAt.below HRB.out HB1.out⟩ (fun hHeld => ?_)); try simp only [Lga, Lgz, Lgs, Act.put, Lsa, Lsz, Lss]
     refine wpAnyH_ready (rs := [9]) (by kernel_rfl) (by simp) ?_
     refine AllReadyH.cons rfl (fun K hK => ?_) AllReadyH.nil
     ·
      go_simp
      have HB2 := Amk (bal HB1.out (.cells kz 64))
      have HY2 : Aside0 (((wr.drew.alloc (.cells kz 64)).alloc (.cells kz 64)).heap[wr.heap.size + 1]? = some (.cells kz 64 (0, 0))) := ⟨by have h := heap_alloc_new (wr.drew.alloc (.cells kz 64)) (.cells kz 64); rw [World.size_alloc] at h; exact h⟩
      have HX2 := Amk (blk_alloc HX1.out (.cells kz 64))
      (first | refine hK.out _ _ ⟨RowAt.below HRA.out HB2.out, RowAt.below HRB.out HB2.out⟩ (fun hHeld => ?_) | refine hK _ _ ⟨RowAt.below HRA.out HB2.out, RowAt.below HRB.out HB2.out⟩ (fun hHeld => ?_)); try simp only [Lga, Lgz, Lgs, Act.put, Lsa, Lsz, Lss]
      refine wpAnyH_ready (rs := [10]) (by kernel_rfl) (by simp) ?_
      refine AllReadyH.cons rfl (fun K hK => ?_) AllReadyH.nil
      ·
       rw [if_pos (by kernel_rfl)]
       simp only [Lga, Lgz, Lgs]
       refine wp_store_blk 64 (.tmp 6) (.tmp 21) (by kernel_rfl) (by kernel_rfl) (e := 64) (.agg #[.int .i64 k0, .int .i64 k1, .int .i64 k2, .int .i64 k3, .string s4, .string s5, .bool p6, .bool p7, .bool p8, .string s9, .string s10, .slice P 0 cP, .bool p12, .int .i64 k13]) [.int .i64 k0, .int .i64 k1, .int .i64 k2, .int .i64 k3, .string s4, .string s5, .bool p6, .bool p7, .bool p8, .string s9, .string s10, .slice P 0 cP, .bool p12, .int .i64 k13] (by kernel_rfl) (by kernel_rfl) (by kernel_rfl) HX2.out (by kernel_rfl) rfl (by simp [Value.oneCell']) (fun W3 HW => ?_)
       have HB3 := Amk (HW.below HB2.out HB2.out.size (by first | exact Nat.le_refl _ | exact HB2.out.size | (simp; done) | (simp; omega)))
       have HX3 := Amk HW.blk
       have HY3 := Amk (HW.blk_ HY2.out (by first | exact Nat.ne_of_lt (blk_lt HY2.out) | omega | (simp; done) | (simp; omega)))
       clear HW
       (first | refine hK.out _ _ ⟨RowAt.below HRA.out HB3.out, RowAt.below HRB.out HB3.out⟩ (fun hHeld => ?_) | refine hK _ _ ⟨RowAt.below HRA.out HB3.out, RowAt.below HRB.out HB3.out⟩ (fun hHeld => ?_)); try simp only [Lga, Lgz, Lgs, Act.put, Lsa, Lsz, Lss]
       refine wpAnyH_ready (rs := [11]) (by kernel_rfl) (by simp) ?_
       refine AllReadyH.cons rfl (fun K hK => ?_) AllReadyH.nil
       ·
        rw [if_pos (by kernel_rfl)]
        simp only [Lga, Lgz, Lgs]
        refine wp_store_blk 64 (.tmp 7) (.tmp 25) (by kernel_rfl) (by kernel_rfl) (e := 64) (.agg #[.int .i64 k0, .int .i64 k1, .int .i64 k2, .int .i64 k3, .string s4, .string s5, .bool p6, .bool p7, .bool p8, .string s9, .string s10, .slice R 0 cR, .bool p12, .int .i64 k13]) [.int .i64 k0, .int .i64 k1, .int .i64 k2, .int .i64 k3, .string s4, .string s5, .bool p6, .bool p7, .bool p8, .string s9, .string s10, .slice R 0 cR, .bool p12, .int .i64 k13] (by kernel_rfl) (by kernel_rfl) (by kernel_rfl) HY3.out (by kernel_rfl) rfl (by simp [Value.oneCell']) (fun W4 HW => ?_)
        have HB4 := Amk (HW.below HB3.out HB3.out.size (by first | exact Nat.le_refl _ | exact HB2.out.size | (simp; done) | (simp; omega)))
        have HY4 := Amk HW.blk
        have HX4 := Amk (HW.blk_ HX3.out (by first | exact Nat.ne_of_lt (blk_lt HX2.out) | omega | (simp; done) | (simp; omega)))
        clear HW
        (first | refine hK.out _ _ ⟨RowAt.below HRA.out HB4.out, RowAt.below HRB.out HB4.out⟩ (fun hHeld => ?_) | refine hK _ _ ⟨RowAt.below HRA.out HB4.out, RowAt.below HRB.out HB4.out⟩ (fun hHeld => ?_)); try simp only [Lga, Lgz, Lgs, Act.put, Lsa, Lsz, Lss]
        refine wpAnyH_done (by kernel_rfl) ?_ _
        clear hK K
        go_wp2_with fail
        go_meet
        have HSZ := World.size_alloc wr.drew (.cells kz 64)
        exact ⟨_, _, rfl, rfl, HB4, ⟨by first | exact HX4.out | (rw [HSZ] at HX4; exact HX4.out)⟩, ⟨by first | exact HY4.out | (rw [HSZ] at HY4; exact HY4.out)⟩⟩
    ·
     go_simp
     have HB1 := Amk (bal (below_drew1 (Below.refl wr.heap.size wr)) (.cells kz 64))
     have HY1 := Amk (heap_alloc_new wr.drew (.cells kz 64))
     (first | refine hK.out _ _ ⟨RowAt.below HRA.out HB1.out, RowAt.below HRB.out HB1.out⟩ (fun hHeld => ?_) | refine hK _ _ ⟨RowAt.below HRA.out HB1.out, RowAt.below HRB.out HB1.out⟩ (fun hHeld => ?_)); try simp only [Lga, Lgz, Lgs, Act.put, Lsa, Lsz, Lss]
     refine wpAnyH_ready (rs := [8]) (by kernel_rfl) (by simp) ?_
     refine AllReadyH.cons rfl (fun K hK => ?_) AllReadyH.nil
     ·
      go_simp
      have HB2 := Amk (bal HB1.out (.cells kz 64))
      have HX2 : Aside0 (((wr.drew.alloc (.cells kz 64)).alloc (.cells kz 64)).heap[wr.heap.size + 1]? = some (.cells kz 64 (0, 0))) := ⟨by have h := heap_alloc_new (wr.drew.alloc (.cells kz 64)) (.cells kz 64); rw [World.size_alloc] at h; exact h⟩
      have HY2 := Amk (blk_alloc HY1.out (.cells kz 64))
      (first | refine hK.out _ _ ⟨RowAt.below HRA.out HB2.out, RowAt.below HRB.out HB2.out⟩ (fun hHeld => ?_) | refine hK _ _ ⟨RowAt.below HRA.out HB2.out, RowAt.below HRB.out HB2.out⟩ (fun hHeld => ?_)); try simp only [Lga, Lgz, Lgs, Act.put, Lsa, Lsz, Lss]
      refine wpAnyH_ready (rs := [10]) (by kernel_rfl) (by simp) ?_
      refine AllReadyH.cons rfl (fun K hK => ?_) AllReadyH.nil
      ·
       rw [if_pos (by kernel_rfl)]
       simp only [Lga, Lgz, Lgs]
       refine wp_store_blk 64 (.tmp 6) (.tmp 21) (by kernel_rfl) (by kernel_rfl) (e := 64) (.agg #[.int .i64 k0, .int .i64 k1, .int .i64 k2, .int .i64 k3, .string s4, .string s5, .bool p6, .bool p7, .bool p8, .string s9, .string s10, .slice P 0 cP, .bool p12, .int .i64 k13]) [.int .i64 k0, .int .i64 k1, .int .i64 k2, .int .i64 k3, .string s4, .string s5, .bool p6, .bool p7, .bool p8, .string s9, .string s10, .slice P 0 cP, .bool p12, .int .i64 k13] (by kernel_rfl) (by kernel_rfl) (by kernel_rfl) HX2.out (by kernel_rfl) rfl (by simp [Value.oneCell']) (fun W3 HW => ?_)
       have HB3 := Amk (HW.below HB2.out HB2.out.size (by first | exact Nat.le_refl _ | exact HB2.out.size | (simp; done) | (simp; omega)))
       have HX3 := Amk HW.blk
       have HY3 := Amk (HW.blk_ HY2.out (by first | exact Nat.ne_of_lt (blk_lt HY2.out) | omega | (simp; done) | (simp; omega)))
       clear HW
       (first | refine hK.out _ _ ⟨RowAt.below HRA.out HB3.out, RowAt.below HRB.out HB3.out⟩ (fun hHeld => ?_) | refine hK _ _ ⟨RowAt.below HRA.out HB3.out, RowAt.below HRB.out HB3.out⟩ (fun hHeld => ?_)); try simp only [Lga, Lgz, Lgs, Act.put, Lsa, Lsz, Lss]
       refine wpAnyH_ready (rs := [11]) (by kernel_rfl) (by simp) ?_
       refine AllReadyH.cons rfl (fun K hK => ?_) AllReadyH.nil
       ·
        rw [if_pos (by kernel_rfl)]
        simp only [Lga, Lgz, Lgs]
        refine wp_store_blk 64 (.tmp 7) (.tmp 25) (by kernel_rfl) (by kernel_rfl) (e := 64) (.agg #[.int .i64 k0, .int .i64 k1, .int .i64 k2, .int .i64 k3, .string s4, .string s5, .bool p6, .bool p7, .bool p8, .string s9, .string s10, .slice R 0 cR, .bool p12, .int .i64 k13]) [.int .i64 k0, .int .i64 k1, .int .i64 k2, .int .i64 k3, .string s4, .string s5, .bool p6, .bool p7, .bool p8, .string s9, .string s10, .slice R 0 cR, .bool p12, .int .i64 k13] (by kernel_rfl) (by kernel_rfl) (by kernel_rfl) HY3.out (by kernel_rfl) rfl (by simp [Value.oneCell']) (fun W4 HW => ?_)
        have HB4 := Amk (HW.below HB3.out HB3.out.size (by first | exact Nat.le_refl _ | exact HB2.out.size | (simp; done) | (simp; omega)))
        have HY4 := Amk HW.blk
        have HX4 := Amk (HW.blk_ HX3.out (by first | exact Nat.ne_of_lt (blk_lt HX2.out) | omega | (simp; done) | (simp; omega)))
        clear HW
        (first | refine hK.out _ _ ⟨RowAt.below HRA.out HB4.out, RowAt.below HRB.out HB4.out⟩ (fun hHeld => ?_) | refine hK _ _ ⟨RowAt.below HRA.out HB4.out, RowAt.below HRB.out HB4.out⟩ (fun hHeld => ?_)); try simp only [Lga, Lgz, Lgs, Act.put, Lsa, Lsz, Lss]
        refine wpAnyH_done (by kernel_rfl) ?_ _
        clear hK K
        go_wp2_with fail
        go_meet
        have HSZ := World.size_alloc wr.drew (.cells kz 64)
        exact ⟨_, _, rfl, rfl, HB4, ⟨by first | exact HX4.out | (rw [HSZ] at HX4; exact HX4.out)⟩, ⟨by first | exact HY4.out | (rw [HSZ] at HY4; exact HY4.out)⟩⟩
   case rest =>
    obtain ⟨bx, bz, rfl, rfl, HB4, HX4, HY4⟩ := hcut
    have x0 := (bqc HX4.out 0).trans (show _ = some (Value.int .i64 k0) from rfl)
    have y0 := (bqc HY4.out 0).trans (show _ = some (Value.int .i64 k0) from rfl)
    have x1 := (bqc HX4.out 1).trans (show _ = some (Value.int .i64 k1) from rfl)
    have y1 := (bqc HY4.out 1).trans (show _ = some (Value.int .i64 k1) from rfl)
    have x2 := (bqc HX4.out 2).trans (show _ = some (Value.int .i64 k2) from rfl)
    have y2 := (bqc HY4.out 2).trans (show _ = some (Value.int .i64 k2) from rfl)
    have x3 := (bqc HX4.out 3).trans (show _ = some (Value.int .i64 k3) from rfl)
    have y3 := (bqc HY4.out 3).trans (show _ = some (Value.int .i64 k3) from rfl)
    have x4 := (bqc HX4.out 4).trans (show _ = some (Value.string s4) from rfl)
    have y4 := (bqc HY4.out 4).trans (show _ = some (Value.string s4) from rfl)
    have x5 := (bqc HX4.out 5).trans (show _ = some (Value.string s5) from rfl)
    have y5 := (bqc HY4.out 5).trans (show _ = some (Value.string s5) from rfl)
    have x6 := (bqc HX4.out 6).trans (show _ = some (Value.bool p6) from rfl)
    have y6 := (bqc HY4.out 6).trans (show _ = some (Value.bool p6) from rfl)
    have x7 := (bqc HX4.out 7).trans (show _ = some (Value.bool p7) from rfl)
    have y7 := (bqc HY4.out 7).trans (show _ = some (Value.bool p7) from rfl)
    have x8 := (bqc HX4.out 8).trans (show _ = some (Value.bool p8) from rfl)
    have y8 := (bqc HY4.out 8).trans (show _ = some (Value.bool p8) from rfl)
    have x9 := (bqc HX4.out 9).trans (show _ = some (Value.string s9) from rfl)
    have y9 := (bqc HY4.out 9).trans (show _ = some (Value.string s9) from rfl)
    have x10 := (bqc HX4.out 10).trans (show _ = some (Value.string s10) from rfl)
    have y10 := (bqc HY4.out 10).trans (show _ = some (Value.string s10) from rfl)
    have x12 := (bqc HX4.out 12).trans (show _ = some (Value.bool p12) from rfl)
    have y12 := (bqc HY4.out 12).trans (show _ = some (Value.bool p12) from rfl)
    have x13 := (bqc HX4.out 13).trans (show _ = some (Value.int .i64 k13) from rfl)
    have y13 := (bqc HY4.out 13).trans (show _ = some (Value.int .i64 k13) from rfl)
    have x11 := (bqc HX4.out 11).trans (show _ = some (Value.slice P 0 cP) from rfl)
    have y11 := (bqc HY4.out 11).trans (show _ = some (Value.slice R 0 cR) from rfl)
    have HSX : Aside0 (RowAt [.string s9, .string s10, .slice P 0 cP, .bool p12, .int .i64 k13] ⟨bx, 9, none⟩ _) := ⟨RowAt.mid HX4.out 9 rfl⟩
    have HSY : Aside0 (RowAt [.string s9, .string s10, .slice R 0 cR, .bool p12, .int .i64 k13] ⟨bz, 9, none⟩ _) := ⟨RowAt.mid HY4.out 9 rfl⟩
    have HBW := Amk (bth HW.out HW.out.size HB4.out)
    clear HRA HRB
    go_wp2_with (first
     | (with_reducible refine gate_dst (N := 89) rfl ?_; refine wpList_load_at (by rfl) 62 (.tmp 88) rfl ⟨bx, 9, none⟩ rfl [.string s9, .string s10, .slice P 0 cP, .bool p12, .int .i64 k13] _ HSX.out Tryz.underlying62 rfl (by kernel_rfl) ?_)
     | (with_reducible refine gate_dst (N := 91) rfl ?_; refine wpList_load_at (by rfl) 62 (.tmp 90) rfl ⟨bz, 9, none⟩ rfl [.string s9, .string s10, .slice R 0 cR, .bool p12, .int .i64 k13] _ HSY.out Tryz.underlying62 rfl (by kernel_rfl) ?_)
     | (go_at_call 83; refine Calls.mono (samemsg_calls P R cP cR s9 s10 p12 k13 _) ?_; rintro e5 w5 ⟨rfl, hb⟩; have HB5 := Amk (bth HBW.out HBW.out.size hb); clear hb))
    go_roundg g
    case rel => exact ⟨i + 1, by go_num, by omega, HB5⟩
    case measure => omega
theorem Same_calls (s : Mq) (AW BW : Option Addr) (cW dW : Nat) (AC BC : Option Addr) (cC dC : Nat) (w : World) (hI : MqIn w s AW cW AC cC) (hJ : MqIn w s BW dW BC dC) : Calls Tryz.prog 24 #[mqAgg s AW cW AC cC, mqAgg s BW dW BC dC] w fun e w' => e = .returned (.bool true) ∧ Below w.heap.size w w' := by
 obtain ⟨rest, up, down, client, clean, will, codes⟩ := s
 obtain ⟨h1, h2, h3, h4, h5, h6⟩ := hI
 obtain ⟨j1, j2, j3, j4, j5, j6⟩ := hJ
 simp only [mqAgg, mqCells] at *
 have HI1 := Amk h1
 have HI3 := Amk h3
 have HJ1 := Amk j1
 have HJ3 := Amk j3
 have HL := Amk h5
 clear h1 h2 h3 h4 h5 j1 j2 j3 j4 j5 j6
 have HW := Amk (bal (bal (Below.refl w.heap.size w) (.cells #[.string rest, .bool up, .bool down, .string client, .bool clean, .slice AW will.length cW, .slice AC codes.length cC] 45)) (.cells #[.string rest, .bool up, .bool down, .string client, .bool clean, .slice BW will.length dW, .slice BC codes.length dC] 45))
 have HX := Amk (blk_alloc (heap_alloc_new w (.cells #[.string rest, .bool up, .bool down, .string client, .bool clean, .slice AW will.length cW, .slice AC codes.length cC] 45)) (.cells #[.string rest, .bool up, .bool down, .string client, .bool clean, .slice BW will.length dW, .slice BC codes.length dC] 45))
 have HY : Aside0 (((w.alloc (.cells #[.string rest, .bool up, .bool down, .string client, .bool clean, .slice AW will.length cW, .slice AC codes.length cC] 45)).alloc (.cells #[.string rest, .bool up, .bool down, .string client, .bool clean, .slice BW will.length dW, .slice BC codes.length dC] 45)).heap[w.heap.size + 1]? = some (.cells #[.string rest, .bool up, .bool down, .string client, .bool clean, .slice BW will.length dW, .slice BC codes.length dC] 45 (0, 0))) := ⟨by have h := heap_alloc_new (w.alloc (.cells #[.string rest, .bool up, .bool down, .string client, .bool clean, .slice AW will.length cW, .slice AC codes.length cC] 45)) (.cells #[.string rest, .bool up, .bool down, .string client, .bool clean, .slice BW will.length dW, .slice BC codes.length dC] 45); rw [World.size_alloc] at h; exact h⟩
 have hu : (up == up) = true := by cases up <;> rfl
 have hd : (down == down) = true := by cases down <;> rfl
 have hc : (clean == clean) = true := by cases clean <;> rfl
 go_enter Tryz.func24, Tryz.ntmps24
 go_wp2_with fail
 go_loopg [51] codes.length (fun kq v51 wx => ∃ i : Nat, v51 = .int .i64 (i : Nat) ∧ i + kq = codes.length ∧ Aside0 (Below w.heap.size w wx) ∧ Aside0 (wx.heap[w.heap.size]? = some (.cells #[.string rest, .bool up, .bool down, .string client, .bool clean, .slice AW will.length cW, .slice AC codes.length cC] 45 (0, 0))) ∧ Aside0 (wx.heap[w.heap.size + 1]? = some (.cells #[.string rest, .bool up, .bool down, .string client, .bool clean, .slice BW will.length dW, .slice BC codes.length dC] 45 (0, 0))))
 case atStart => exact ⟨0, rfl, by omega, HW, HX, HY⟩
 case round =>
  clear HW HX HY
  obtain ⟨i, rfl, hi, HW, HX, HY⟩ := hrel
  have x6 := (bqc HX.out 6).trans (show _ = some (Value.slice AC codes.length cC) from rfl)
  have y6 := (bqc HY.out 6).trans (show _ = some (Value.slice BC codes.length dC) from rfl)
  have x5 := (bqc HX.out 5).trans (show _ = some (Value.slice AW will.length cW) from rfl)
  have y5 := (bqc HY.out 5).trans (show _ = some (Value.slice BW will.length dW) from rfl)
  cases gk with
  | zero =>
   have hge : decide ((i : Int) < (codes.length : Int)) = false := decide_eq_false (by omega)
   have hge2 : decide (i < codes.length) = false := decide_eq_false (by omega)
   go_wp2_with (go_at_call 36; refine Calls.mono (sameops_calls AW BW will.length cW dW will _ (Kd.C_below HI1.out HW.out) (Kd.C_below HJ1.out HW.out) HL.out) ?_; rintro e1 w1 ⟨rfl, hb⟩; have HB3 := Amk (bth HW.out HW.out.size hb); clear hb)
   go_ret
   exact ⟨rfl, HB3.out⟩
  | succ g =>
   have hlt : decide ((i : Int) < (codes.length : Int)) = true := decide_eq_true (by omega)
   have hlt2 : decide (i < codes.length) = true := decide_eq_true (by omega)
   have hib : i < 1048576 := by omega
   obtain ⟨ad, rfl, hcell⟩ := Kd.at_int (Kd.C_below HI3.out HW.out) (i : Int) (by omega) (by omega)
   obtain ⟨bd, rfl, hcelb⟩ := Kd.at_int (Kd.C_below HJ3.out HW.out) (i : Int) (by omega) (by omega)
   simp only [Int.toNat_natCast] at hcell hcelb
   obtain ⟨z, hz⟩ : ∃ z, rd codes (i : Int) = z := ⟨_, rfl⟩
   rw [hz] at hcell hcelb
   clear hz
   have hin : i < codes.length := by omega
   go_upto_region 6 with fail
   go_quiet (fail)
   go_wp2_with fail
   go_roundg g
   case rel => exact ⟨i + 1, by go_num, by omega, ⟨HW.out.trans ⟨rfl, rfl, rfl, Nat.le_refl _, fun _ _ => rfl⟩⟩, HX, HY⟩
   case measure => omega
def SS (ad bd : Addr) (i : Nat) (kind ref : Int) (bytes text : ByteArray) (P R : Option Addr) (n8 cP cR : Nat) (W : World) : Prop := W.cell? (ad.add (i * 5)) = some (.int .i64 kind) ∧ W.cell? ⟨(ad.add (i * 5)).block, (ad.add (i * 5)).off + 1, none⟩ = some (.string bytes) ∧ W.cell? ⟨(ad.add (i * 5)).block, (ad.add (i * 5)).off + 2, none⟩ = some (.slice P n8 cP) ∧ W.cell? ⟨(ad.add (i * 5)).block, (ad.add (i * 5)).off + 3, none⟩ = some (.int .i64 ref) ∧ W.cell? ⟨(ad.add (i * 5)).block, (ad.add (i * 5)).off + 4, none⟩ = some (.string text) ∧ W.cell? (bd.add (i * 5)) = some (.int .i64 kind) ∧ W.cell? ⟨(bd.add (i * 5)).block, (bd.add (i * 5)).off + 1, none⟩ = some (.string bytes) ∧ W.cell? ⟨(bd.add (i * 5)).block, (bd.add (i * 5)).off + 2, none⟩ = some (.slice R n8 cR) ∧ W.cell? ⟨(bd.add (i * 5)).block, (bd.add (i * 5)).off + 3, none⟩ = some (.int .i64 ref) ∧ W.cell? ⟨(bd.add (i * 5)).block, (bd.add (i * 5)).off + 4, none⟩ = some (.string text)
theorem SS.below {ad bd : Addr} {i : Nat} {kind ref : Int} {bytes text : ByteArray} {P R : Option Addr} {n8 cP cR : Nat} {W W1 : World} (h : SS ad bd i kind ref bytes text P R n8 cP cR W) (hb : Below W.heap.size W W1) : SS ad bd i kind ref bytes text P R n8 cP cR W1 := by
 have k : ∀ {a : Addr} {v : Value}, W.cell? a = some v → W1.cell? a = some v := fun {a v} hc => (hb.cell (World.block_lt_of_cell? W a hc)).trans hc
 obtain ⟨a0, a1, a2, a3, a4, b0, b1, b2, b3, b4⟩ := h
 exact ⟨k a0, k a1, k a2, k a3, k a4, k b0, k b1, k b2, k b3, k b4⟩
theorem same_calls (v1 v2 : Value) (l : List BAct) (A B : Option Addr) (n cA cB : Nat) (w : World) (hA : kAct.C w A n l) (hB : kAct.C w B n l) (hn : n ≤ 1048576) (hz : ∀ x ∈ l, x.ops.length ≤ 1048576) : Calls Tryz.prog 25 #[.slice A n cA, .slice B n cB] w fun e w' => e = .returned (.bool true) ∧ Below w.heap.size w w' := by
 have HA := Amk hA
 have HB := Amk hB
 have HZ := Amk hz
 have HN : Aside0 (l.length = n) := ⟨hA.1⟩
 clear hA hB hz
 go_enter Tryz.func25, Tryz.ntmps25
 go_wp2_with fail
 go_loopg [13] n (fun kq v13 wx => ∃ i : Nat, v13 = .int .i64 (i : Nat) ∧ i + kq = n ∧ Aside0 (Below w.heap.size w wx))
 case atStart => exact ⟨0, rfl, by omega, ⟨Below.refl _ _⟩⟩
 case round =>
  obtain ⟨i, rfl, hi, HW⟩ := hrel
  cases gk with
  | zero =>
   have hge : decide ((i : Int) < (n : Int)) = false := decide_eq_false (by omega)
   have hge2 : decide (i < n) = false := decide_eq_false (by omega)
   go_wp2_with fail
   go_ret
   exact ⟨rfl, HW.out⟩
  | succ g =>
   have hlt : decide ((i : Int) < (n : Int)) = true := decide_eq_true (by omega)
   have hlt2 : decide (i < n) = true := decide_eq_true (by omega)
   have hib : i < 1048576 := by omega
   have hin : i < n := by omega
   obtain ⟨ad, cs, rfl, _, hK, hcc⟩ := Kd.C_get (Kd.C_below HA.out HW.out) endAct (i : Int) (by omega) (by omega)
   obtain ⟨bd, ds, rfl, _, hL, hdd⟩ := Kd.C_get (Kd.C_below HB.out HW.out) endAct (i : Int) (by omega) (by omega)
   simp only [Int.toNat_natCast] at hcc hK hL hdd
   obtain ⟨x, hx⟩ : ∃ x, l.getD i endAct = x := ⟨_, rfl⟩
   have hxi : x ∈ l := by
    have hil : i < l.length := by have := HN.out; omega
    have : l[i] = x := by rw [← hx]; simp [hil]
    rw [← this]; exact List.getElem_mem hil
   have HZX := Amk (HZ.out x hxi)
   rw [hx] at hK hL
   clear hxi hx
   obtain ⟨P, cP, rfl, _, hP⟩ := kAct_open hK
   obtain ⟨R, cR, rfl, _, hR⟩ := kAct_open hL
   obtain ⟨kind, bytes, ops, ref, text⟩ := x
   simp only at *
   have HP := Amk hP
   have HR := Amk hR
   clear hP hR hK hL
   have a0 : wr.cell? (ad.add (i * 5)) = some (.int .i64 kind) := hcc 0 _ rfl
   have a1 : wr.cell? ⟨(ad.add (i * 5)).block, (ad.add (i * 5)).off + 1, none⟩ = some (.string bytes) := by rw [← add_field _ _ 1 (by omega)]; exact hcc 1 _ rfl
   have a2 : wr.cell? ⟨(ad.add (i * 5)).block, (ad.add (i * 5)).off + 2, none⟩ = some (.slice P ops.length cP) := by rw [← add_field _ _ 2 (by omega)]; exact hcc 2 _ rfl
   have a3 : wr.cell? ⟨(ad.add (i * 5)).block, (ad.add (i * 5)).off + 3, none⟩ = some (.int .i64 ref) := by rw [← add_field _ _ 3 (by omega)]; exact hcc 3 _ rfl
   have a4 : wr.cell? ⟨(ad.add (i * 5)).block, (ad.add (i * 5)).off + 4, none⟩ = some (.string text) := by rw [← add_field _ _ 4 (by omega)]; exact hcc 4 _ rfl
   have b0 : wr.cell? (bd.add (i * 5)) = some (.int .i64 kind) := hdd 0 _ rfl
   have b1 : wr.cell? ⟨(bd.add (i * 5)).block, (bd.add (i * 5)).off + 1, none⟩ = some (.string bytes) := by rw [← add_field _ _ 1 (by omega)]; exact hdd 1 _ rfl
   have b2 : wr.cell? ⟨(bd.add (i * 5)).block, (bd.add (i * 5)).off + 2, none⟩ = some (.slice R ops.length cR) := by rw [← add_field _ _ 2 (by omega)]; exact hdd 2 _ rfl
   have b3 : wr.cell? ⟨(bd.add (i * 5)).block, (bd.add (i * 5)).off + 3, none⟩ = some (.int .i64 ref) := by rw [← add_field _ _ 3 (by omega)]; exact hdd 3 _ rfl
   have b4 : wr.cell? ⟨(bd.add (i * 5)).block, (bd.add (i * 5)).off + 4, none⟩ = some (.string text) := by rw [← add_field _ _ 4 (by omega)]; exact hdd 4 _ rfl
   have HS : Aside0 (SS ad bd i kind ref bytes text P R ops.length cP cR wr) := ⟨⟨a0, a1, a2, a3, a4, b0, b1, b2, b3, b4⟩⟩
   clear hcc hdd a0 a1 a2 a3 a4 b0 b1 b2 b3 b4
   go_upto_region 6 with fail
   refine wp_region_held_drew (S := SS ad bd i kind ref bytes text P R ops.length cP cR) (by kernel_rfl) HS.out (fun hHeld => ?_)
   refine tkH 0 ?_ hHeld ?_ ?_; rotate_left; (focus intro w_ hSw; (try dsimp only [SS] at hSw); go_simp; (try simp only [hSw]); (try rfl)); rotate_left; try simp only [Lga, Lgz, Lgs, Act.put, Lsa, Lsz, Lss]
   refine tkH 1 ?_ hHeld ?_ ?_; rotate_left; (focus intro w_ hSw; (try dsimp only [SS] at hSw); go_simp; (try simp only [hSw]); (try rfl)); rotate_left; try simp only [Lga, Lgz, Lgs, Act.put, Lsa, Lsz, Lss]
   refine tkH 2 ((.pointer (some (ad.add (i * 5))))) hHeld ?_ ?_; (focus intro w_ hSw; go_simp; (try rw [if_pos hin])); try simp only [Lga, Lgz, Lgs, Act.put, Lsa, Lsz, Lss]
   refine tkH 3 ?_ hHeld ?_ ?_; rotate_left; (focus intro w_ hSw; (try dsimp only [SS] at hSw); go_simp; (try simp only [hSw]); (try rfl)); rotate_left; try simp only [Lga, Lgz, Lgs, Act.put, Lsa, Lsz, Lss]
   refine tkH 4 ?_ hHeld ?_ ?_; rotate_left; (focus intro w_ hSw; (try dsimp only [SS] at hSw); go_simp; (try simp only [hSw]); (try rfl)); rotate_left; try simp only [Lga, Lgz, Lgs, Act.put, Lsa, Lsz, Lss]
   refine tkH 5 ?_ hHeld ?_ ?_; rotate_left; (focus intro w_ hSw; (try dsimp only [SS] at hSw); go_simp; (try simp only [hSw]); (try rfl)); rotate_left; try simp only [Lga, Lgz, Lgs, Act.put, Lsa, Lsz, Lss]
   refine tkH 6 ?_ hHeld ?_ ?_; rotate_left; (focus intro w_ hSw; (try dsimp only [SS] at hSw); go_simp; (try simp only [hSw]); (try rfl)); rotate_left; try simp only [Lga, Lgz, Lgs, Act.put, Lsa, Lsz, Lss]
   refine tkH 7 ((.pointer (some (bd.add (i * 5))))) hHeld ?_ ?_; (focus intro w_ hSw; go_simp; (try rw [if_pos hin])); try simp only [Lga, Lgz, Lgs, Act.put, Lsa, Lsz, Lss]
   refine tkH 8 ?_ hHeld ?_ ?_; rotate_left; (focus intro w_ hSw; (try dsimp only [SS] at hSw); go_simp; (try simp only [hSw]); (try rfl)); rotate_left; try simp only [Lga, Lgz, Lgs, Act.put, Lsa, Lsz, Lss]
   refine tkH 9 ?_ hHeld ?_ ?_; rotate_left; (focus intro w_ hSw; (try dsimp only [SS] at hSw); go_simp; (try simp only [hSw]); (try rfl)); rotate_left; try simp only [Lga, Lgz, Lgs, Act.put, Lsa, Lsz, Lss]
   refine tkH 10 (.bool false) hHeld ?_ ?_; (focus intro w_ hSw; go_simp; (try rfl); (try simp)); try simp only [Lga, Lgz, Lgs, Act.put, Lsa, Lsz, Lss]
   refine tkH 11 (.bool false) hHeld ?_ ?_; (focus intro w_ hSw; go_simp; (try rfl); (try simp)); try simp only [Lga, Lgz, Lgs, Act.put, Lsa, Lsz, Lss]
   refine tkH 12 ?_ hHeld ?_ ?_; rotate_left; (focus intro w_ hSw; (try dsimp only [SS] at hSw); go_simp; (try simp only [hSw]); (try rfl)); rotate_left; try simp only [Lga, Lgz, Lgs, Act.put, Lsa, Lsz, Lss]
   refine tkH 13 ?_ hHeld ?_ ?_; rotate_left; (focus intro w_ hSw; (try dsimp only [SS] at hSw); go_simp; (try simp only [hSw]); (try rfl)); rotate_left; try simp only [Lga, Lgz, Lgs, Act.put, Lsa, Lsz, Lss]
   refine tkH 14 ((.pointer (some (ad.add (i * 5))))) hHeld ?_ ?_; (focus intro w_ hSw; go_simp; (try rw [if_pos hin])); try simp only [Lga, Lgz, Lgs, Act.put, Lsa, Lsz, Lss]
   refine tkH 15 ?_ hHeld ?_ ?_; rotate_left; (focus intro w_ hSw; (try dsimp only [SS] at hSw); go_simp; (try simp only [hSw]); (try rfl)); rotate_left; try simp only [Lga, Lgz, Lgs, Act.put, Lsa, Lsz, Lss]
   refine tkH 16 ?_ hHeld ?_ ?_; rotate_left; (focus intro w_ hSw; (try dsimp only [SS] at hSw); go_simp; (try simp only [hSw]); (try rfl)); rotate_left; try simp only [Lga, Lgz, Lgs, Act.put, Lsa, Lsz, Lss]
   refine tkH 17 ?_ hHeld ?_ ?_; rotate_left; (focus intro w_ hSw; (try dsimp only [SS] at hSw); go_simp; (try simp only [hSw]); (try rfl)); rotate_left; try simp only [Lga, Lgz, Lgs, Act.put, Lsa, Lsz, Lss]
   refine tkH 18 ?_ hHeld ?_ ?_; rotate_left; (focus intro w_ hSw; (try dsimp only [SS] at hSw); go_simp; (try simp only [hSw]); (try rfl)); rotate_left; try simp only [Lga, Lgz, Lgs, Act.put, Lsa, Lsz, Lss]
   refine tkH 19 ((.pointer (some (bd.add (i * 5))))) hHeld ?_ ?_; (focus intro w_ hSw; go_simp; (try rw [if_pos hin])); try simp only [Lga, Lgz, Lgs, Act.put, Lsa, Lsz, Lss]
   refine tkH 20 ?_ hHeld ?_ ?_; rotate_left; (focus intro w_ hSw; (try dsimp only [SS] at hSw); go_simp; (try simp only [hSw]); (try rfl)); rotate_left; try simp only [Lga, Lgz, Lgs, Act.put, Lsa, Lsz, Lss]
   refine tkH 21 ?_ hHeld ?_ ?_; rotate_left; (focus intro w_ hSw; (try dsimp only [SS] at hSw); go_simp; (try simp only [hSw]); (try rfl)); rotate_left; try simp only [Lga, Lgz, Lgs, Act.put, Lsa, Lsz, Lss]
   refine tkH 22 (.bool false) hHeld ?_ ?_; (focus intro w_ hSw; go_simp; (try rfl); (try simp)); try simp only [Lga, Lgz, Lgs, Act.put, Lsa, Lsz, Lss]
   refine tkH 23 (.bool false) hHeld ?_ ?_; (focus intro w_ hSw; go_simp; (try rfl); (try simp)); try simp only [Lga, Lgz, Lgs, Act.put, Lsa, Lsz, Lss]
   refine tkH 24 (.bool false) hHeld ?_ ?_; (focus intro w_ hSw; go_simp; (try rfl); (try simp)); try simp only [Lga, Lgz, Lgs, Act.put, Lsa, Lsz, Lss]
   refine tkH 25 ?_ hHeld ?_ ?_; rotate_left; (focus intro w_ hSw; (try dsimp only [SS] at hSw); go_simp; (try simp only [hSw]); (try rfl)); rotate_left; try simp only [Lga, Lgz, Lgs, Act.put, Lsa, Lsz, Lss]
   refine tkH 26 ?_ hHeld ?_ ?_; rotate_left; (focus intro w_ hSw; (try dsimp only [SS] at hSw); go_simp; (try simp only [hSw]); (try rfl)); rotate_left; try simp only [Lga, Lgz, Lgs, Act.put, Lsa, Lsz, Lss]
   refine tkH 27 ((.pointer (some (ad.add (i * 5))))) hHeld ?_ ?_; (focus intro w_ hSw; go_simp; (try rw [if_pos hin])); try simp only [Lga, Lgz, Lgs, Act.put, Lsa, Lsz, Lss]
   refine tkH 28 ?_ hHeld ?_ ?_; rotate_left; (focus intro w_ hSw; (try dsimp only [SS] at hSw); go_simp; (try simp only [hSw]); (try rfl)); rotate_left; try simp only [Lga, Lgz, Lgs, Act.put, Lsa, Lsz, Lss]
   refine tkH 29 ?_ hHeld ?_ ?_; rotate_left; (focus intro w_ hSw; (try dsimp only [SS] at hSw); go_simp; (try simp only [hSw]); (try rfl)); rotate_left; try simp only [Lga, Lgz, Lgs, Act.put, Lsa, Lsz, Lss]
   refine tkH 30 ?_ hHeld ?_ ?_; rotate_left; (focus intro w_ hSw; (try dsimp only [SS] at hSw); go_simp; (try simp only [hSw]); (try rfl)); rotate_left; try simp only [Lga, Lgz, Lgs, Act.put, Lsa, Lsz, Lss]
   refine tkH 31 ?_ hHeld ?_ ?_; rotate_left; (focus intro w_ hSw; (try dsimp only [SS] at hSw); go_simp; (try simp only [hSw]); (try rfl)); rotate_left; try simp only [Lga, Lgz, Lgs, Act.put, Lsa, Lsz, Lss]
   refine tkH 32 ((.pointer (some (bd.add (i * 5))))) hHeld ?_ ?_; (focus intro w_ hSw; go_simp; (try rw [if_pos hin])); try simp only [Lga, Lgz, Lgs, Act.put, Lsa, Lsz, Lss]
   refine tkH 33 ?_ hHeld ?_ ?_; rotate_left; (focus intro w_ hSw; (try dsimp only [SS] at hSw); go_simp; (try simp only [hSw]); (try rfl)); rotate_left; try simp only [Lga, Lgz, Lgs, Act.put, Lsa, Lsz, Lss]
   refine tkH 34 ?_ hHeld ?_ ?_; rotate_left; (focus intro w_ hSw; (try dsimp only [SS] at hSw); go_simp; (try simp only [hSw]); (try rfl)); rotate_left; try simp only [Lga, Lgz, Lgs, Act.put, Lsa, Lsz, Lss]
   refine tkH 35 (.bool false) hHeld ?_ ?_; (focus intro w_ hSw; go_simp; (try rfl); (try simp)); try simp only [Lga, Lgz, Lgs, Act.put, Lsa, Lsz, Lss]
   refine tkH 36 (.bool false) hHeld ?_ ?_; (focus intro w_ hSw; go_simp; (try rfl); (try simp)); try simp only [Lga, Lgz, Lgs, Act.put, Lsa, Lsz, Lss]
   refine tkH 37 (.bool false) hHeld ?_ ?_; (focus intro w_ hSw; go_simp; (try rfl); (try simp)); try simp only [Lga, Lgz, Lgs, Act.put, Lsa, Lsz, Lss]
   refine tkH 38 ?_ hHeld ?_ ?_; rotate_left; (focus intro w_ hSw; (try dsimp only [SS] at hSw); go_simp; (try simp only [hSw]); (try rfl)); rotate_left; try simp only [Lga, Lgz, Lgs, Act.put, Lsa, Lsz, Lss]
   refine tkH 39 ?_ hHeld ?_ ?_; rotate_left; (focus intro w_ hSw; (try dsimp only [SS] at hSw); go_simp; (try simp only [hSw]); (try rfl)); rotate_left; try simp only [Lga, Lgz, Lgs, Act.put, Lsa, Lsz, Lss]
   refine tkH 40 ((.pointer (some (ad.add (i * 5))))) hHeld ?_ ?_; (focus intro w_ hSw; go_simp; (try rw [if_pos hin])); try simp only [Lga, Lgz, Lgs, Act.put, Lsa, Lsz, Lss]
   refine tkH 41 ?_ hHeld ?_ ?_; rotate_left; (focus intro w_ hSw; (try dsimp only [SS] at hSw); go_simp; (try simp only [hSw]); (try rfl)); rotate_left; try simp only [Lga, Lgz, Lgs, Act.put, Lsa, Lsz, Lss]
   refine tkH 42 ?_ hHeld ?_ ?_; rotate_left; (focus intro w_ hSw; (try dsimp only [SS] at hSw); go_simp; (try simp only [hSw]); (try rfl)); rotate_left; try simp only [Lga, Lgz, Lgs, Act.put, Lsa, Lsz, Lss]
   refine tkH 43 ?_ hHeld ?_ ?_; rotate_left; (focus intro w_ hSw; (try dsimp only [SS] at hSw); go_simp; (try simp only [hSw]); (try rfl)); rotate_left; try simp only [Lga, Lgz, Lgs, Act.put, Lsa, Lsz, Lss]
   refine tkH 44 ?_ hHeld ?_ ?_; rotate_left; (focus intro w_ hSw; (try dsimp only [SS] at hSw); go_simp; (try simp only [hSw]); (try rfl)); rotate_left; try simp only [Lga, Lgz, Lgs, Act.put, Lsa, Lsz, Lss]
   refine tkH 45 ((.pointer (some (bd.add (i * 5))))) hHeld ?_ ?_; (focus intro w_ hSw; go_simp; (try rw [if_pos hin])); try simp only [Lga, Lgz, Lgs, Act.put, Lsa, Lsz, Lss]
   refine tkH 46 ?_ hHeld ?_ ?_; rotate_left; (focus intro w_ hSw; (try dsimp only [SS] at hSw); go_simp; (try simp only [hSw]); (try rfl)); rotate_left; try simp only [Lga, Lgz, Lgs, Act.put, Lsa, Lsz, Lss]
   refine tkH 47 ?_ hHeld ?_ ?_; rotate_left; (focus intro w_ hSw; (try dsimp only [SS] at hSw); go_simp; (try simp only [hSw]); (try rfl)); rotate_left; try simp only [Lga, Lgz, Lgs, Act.put, Lsa, Lsz, Lss]
   refine tkH 48 (.bool false) hHeld ?_ ?_; (focus intro w_ hSw; go_simp; (try rfl); (try simp)); try simp only [Lga, Lgz, Lgs, Act.put, Lsa, Lsz, Lss]
   refine tkH 49 (.bool false) hHeld ?_ ?_; (focus intro w_ hSw; go_simp; (try rfl); (try simp)); try simp only [Lga, Lgz, Lgs, Act.put, Lsa, Lsz, Lss]
   refine tkH 50 (.bool false) hHeld ?_ ?_; (focus intro w_ hSw; go_simp; (try rfl); (try simp)); try simp only [Lga, Lgz, Lgs, Act.put, Lsa, Lsz, Lss]
   refine tkH 51 ?_ hHeld ?_ ?_; rotate_left; (focus intro w_ hSw; (try dsimp only [SS] at hSw); go_simp; (try simp only [hSw]); (try rfl)); rotate_left; try simp only [Lga, Lgz, Lgs, Act.put, Lsa, Lsz, Lss]
   refine tkH 52 ?_ hHeld ?_ ?_; rotate_left; (focus intro w_ hSw; (try dsimp only [SS] at hSw); go_simp; (try simp only [hSw]); (try rfl)); rotate_left; try simp only [Lga, Lgz, Lgs, Act.put, Lsa, Lsz, Lss]
   refine tkH 53 ((.pointer (some (ad.add (i * 5))))) hHeld ?_ ?_; (focus intro w_ hSw; go_simp; (try rw [if_pos hin])); try simp only [Lga, Lgz, Lgs, Act.put, Lsa, Lsz, Lss]
   refine tkH 54 ?_ hHeld ?_ ?_; rotate_left; (focus intro w_ hSw; (try dsimp only [SS] at hSw); go_simp; (try simp only [hSw]); (try rfl)); rotate_left; try simp only [Lga, Lgz, Lgs, Act.put, Lsa, Lsz, Lss]
   refine tkH 55 ?_ hHeld ?_ ?_; rotate_left; (focus intro w_ hSw; (try dsimp only [SS] at hSw); go_simp; (try simp only [hSw]); (try rfl)); rotate_left; try simp only [Lga, Lgz, Lgs, Act.put, Lsa, Lsz, Lss]
   refine tkH 56 ?_ hHeld ?_ ?_; rotate_left; (focus intro w_ hSw; (try dsimp only [SS] at hSw); go_simp; (try simp only [hSw]); (try rfl)); rotate_left; try simp only [Lga, Lgz, Lgs, Act.put, Lsa, Lsz, Lss]
   refine tkH 57 ?_ hHeld ?_ ?_; rotate_left; (focus intro w_ hSw; (try dsimp only [SS] at hSw); go_simp; (try simp only [hSw]); (try rfl)); rotate_left; try simp only [Lga, Lgz, Lgs, Act.put, Lsa, Lsz, Lss]
   refine tkH 58 ((.pointer (some (bd.add (i * 5))))) hHeld ?_ ?_; (focus intro w_ hSw; go_simp; (try rw [if_pos hin])); try simp only [Lga, Lgz, Lgs, Act.put, Lsa, Lsz, Lss]
   refine tkH 59 ?_ hHeld ?_ ?_; rotate_left; (focus intro w_ hSw; (try dsimp only [SS] at hSw); go_simp; (try simp only [hSw]); (try rfl)); rotate_left; try simp only [Lga, Lgz, Lgs, Act.put, Lsa, Lsz, Lss]
   refine tkH 60 ?_ hHeld ?_ ?_; rotate_left; (focus intro w_ hSw; (try dsimp only [SS] at hSw); go_simp; (try simp only [hSw]); (try rfl)); rotate_left; try simp only [Lga, Lgz, Lgs, Act.put, Lsa, Lsz, Lss]
   refine wpAnyH_ready (rs := [61]) (by kernel_rfl) (by simp) ?_
   refine AllReadyH.cons rfl (fun K hK => ?_) AllReadyH.nil
   go_simp
   go_wp2_with (go_at_call 36; refine Calls.mono (sameops_calls P R ops.length cP cR ops _ (Kd.C_below HP.out (below_drew1 (Below.refl _ _))) (Kd.C_below HR.out (below_drew1 (Below.refl _ _))) HZX.out) ?_; rintro e5 w5 ⟨rfl, hb⟩; have HB5 := Amk (bth (below_drew1 (Below.refl wr.heap.size wr)) (Nat.le_refl _) hb); clear hb)
   (first | refine hK.out _ _ (SS.below HS.out HB5.out) (fun hHeld => ?_) | refine hK _ _ (SS.below HS.out HB5.out) (fun hHeld => ?_)); try simp only [Lga, Lgz, Lgs, Act.put, Lsa, Lsz, Lss]
   refine tkH 62 (.bool false) hHeld ?_ ?_; (focus intro w_ hSw; go_simp; (try rfl); (try simp)); try simp only [Lga, Lgz, Lgs, Act.put, Lsa, Lsz, Lss]
   refine tkH 63 (.bool false) hHeld ?_ ?_; (focus intro w_ hSw; go_simp; (try rfl); (try simp)); try simp only [Lga, Lgz, Lgs, Act.put, Lsa, Lsz, Lss]
   refine wpAnyH_done (by kernel_rfl) ?_ _
   clear hK K
   have HB6 := Amk (bth HW.out HW.out.size HB5.out)
   go_wp2_with fail
   go_roundg g
   case rel => exact ⟨i + 1, by go_num, by omega, HB6⟩
   case measure => omega
end Go.Proofs.YtednegmjjjdinaaGreatDoor.Ext
namespace Go.Proofs.YtednegmjjjdinaaGreatDoor.Ext
open Go.RowKit Go.Proofs.YtednegmjjjdinaaGreatDoorW.PrintWords Go.Proofs.YtednegmjjjdinaaGreatDoorW.PrintLast Go.Proofs.YtednegmjjjdinaaGreatDoorW.PrintMore
set_option linter.unusedVariables false
set_option linter.unusedSimpArgs false
namespace Hd
variable {w0 W W1 : World} {b : Nat} {s : Mq} {l : List BAct} {v1 v2 v3 : Value}
theorem same {b2 : Nat} {A1 : Option Addr} {n1 c1 : Nat} {A2 : Option Addr} {n2 c2 : Nat} {v3' : Value} {B1 : Option Addr} {m1 d1 : Nat} {B2 : Option Addr} {m2 d2 : Nat} (h : Hd w0 W b s l (.slice A1 n1 c1) (.slice A2 n2 c2) v3) (h2 : Hd w0 W b2 s l (.slice B1 m1 d1) (.slice B2 m2 d2) v3') (hm : MqOk s) :
  Calls Tryz.prog 24 #[.agg (mqCells s (.slice A1 n1 c1) (.slice A2 n2 c2)), .agg (mqCells s (.slice B1 m1 d1) (.slice B2 m2 d2))] W fun e w' => e = .returned (.bool true) ∧ Below W.heap.size W w' := by
 obtain ⟨e1, e2, e3⟩ := h.inn hm
 obtain ⟨g1, g2, g3⟩ := h2.inn hm
 have := Same_calls s A1 B1 c1 d1 A2 B2 c2 d2 W e3 g3
 rw [e1, e2, g1, g2]
 exact this
theorem acts_same {b2 : Nat} {A1 : Option Addr} {n1 c1 : Nat} {u1 u2 : Value} {B1 : Option Addr} {m1 d1 : Nat} (h : Hd w0 W b s l v1 v2 (.slice A1 n1 c1)) (h2 : Hd w0 W b2 s l u1 u2 (.slice B1 m1 d1)) (hl : l.length ≤ 557124) (hf : ∀ x ∈ l, x.ops.length ≤ 16) :
  Calls Tryz.prog 25 #[.slice A1 n1 c1, .slice B1 m1 d1] W fun e w' => e = .returned (.bool true) ∧ Below W.heap.size W w' := by
 obtain ⟨e1, _, e3⟩ := Kd.R_reads' h.acts
 obtain ⟨g1, _, g3⟩ := Kd.R_reads' h2.acts
 rw [e1, g1]
 exact same_calls (.slice none 0 0) (.slice none 0 0) l A1 B1 l.length c1 d1 W e3 g3 (by omega) (fun x hx => by have := hf x hx; omega)
end Hd
end Go.Proofs.YtednegmjjjdinaaGreatDoor.Ext
