/- Texts of this claim's author, joined and pruned by a program of his (pack.py): Lb, Lc, Ld, Le, Lf, Lz. -/
import Derived.Test.YtednegmjjjdinaaGreatDoorP0
import Derived.Test.YtednegmjjjdinaaGreatDoorP1
import Derived.Test.YtednegmjjjdinaaGreatDoorP2
import Derived.Test.YtednegmjjjdinaaGreatDoorP3
import Derived.Test.YtednegmjjjdinaaGreatDoorP4
import Derived.Test.YtednegmjjjdinaaGreatDoorP5
import Derived.Test.YtednegmjjjdinaaGreatDoorP7
import Derived.Test.YtednegmjjjdinaaGreatDoorP10
import Derived.Test.YtednegmjjjdinaaGreatDoorP11
import Derived.Test.YtednegmjjjdinaaGreatDoorP12
import Derived.Test.YtednegmjjjdinaaGreatDoorP13
import Derived.Test.YtednegmjjjdinaaGreatDoorP14
import Derived.Test.YtednegmjjjdinaaGreatDoorP15
import Derived.Test.YtednegmjjjdinaaGreatDoorP16
import Derived.Test.YtednegmjjjdinaaGreatDoorP17
set_option maxRecDepth 100000
set_option maxHeartbeats 4000000
open Go.Proofs.YtednegmjjjdinaaGreatDoorW.PrintWords renaming blk_cell → bqc, below_alloc → bal, below_drew1 → bdr, below_then → bth, blk_lt → blt
open List renaming getElem_toArray → Lga, getElem_cons_zero → Lgz, getElem_cons_succ → Lgs, setIfInBounds_toArray → Lsa, set_cons_zero → Lsz, set_cons_succ → Lss
open Go.Proofs.YtednegmjjjdinaaGreatDoorW.PrintWords.Aside0 renaming mk → Amk
namespace Go.Proofs.YtednegmjjjdinaaGreatDoor.Ext
open Go.RowKit Go.Proofs.YtednegmjjjdinaaGreatDoorW.PrintWords Go.Proofs.YtednegmjjjdinaaGreatDoorW.PrintLast Go.Proofs.YtednegmjjjdinaaGreatDoorW.PrintMore
set_option linter.unusedVariables false
set_option linter.unusedSimpArgs false
def lists (l : List ByteArray) : List (List UInt8) := l.map fun c => c.data.toList
structure ToHear (ans : Nat → Int) (conn : Int) (cs : List ByteArray) (s : Mq) (n : Nat) (all : List BAct) (sF : Mq) (lF : List BAct) : Prop where
 heard : ∃ nF r, Heard ans conn (lists cs) s n sF nF r ∧ all ++ r = lF
 good : Good s
 asked : n ≤ all.length
 size : s.rest.size + (lists cs).flatten.length ≤ 16384
theorem heard_results {W : World} {r : Nat} {cs : Array Value} {v7 : Value} {tmps : Array Value} (h6 : tmps.getD 6 undef = .pointer (some ⟨r, 0, none⟩)) (h7 : tmps.getD 7 undef = v7) (hb : W.heap[r]? = some (.cells cs 45 (0, 0))) (hs : cs.size = 7) :
  (results Tryz.f23 tmps).run Tryz.prog W = .ok (.tuple #[.agg cs, v7]) W := by
 have h1 := run_loadVar_row (P := Tryz.prog) W r 45 45 cs (0, 0) _ hb Tryz.underlying45 rfl (by rw [hs]; kernel_rfl)
 have h6' : tmps[6]?.getD undef = .pointer (some ⟨r, 0, none⟩) := by simpa using h6
 have h7' : tmps[7]?.getD undef = v7 := by simpa using h7
 simp [results, Tryz.results23, h6', h7', asAddr, h1]
structure ToDrain (ans : Nat → Int) (conn : Int) (cs : List ByteArray) (kq : Nat) (s : Mq) (n : Nat) (all : List BAct) (sF : Mq) (lF : List BAct) : Prop where
 over : kq = 0 → ToHear ans conn cs s n all sF lF
 more : ∀ k, kq = k + 1 → ∃ s1 n1 r1 nF r, Drain ans conn k s n s1 n1 r1 ∧ Heard ans conn (lists cs) s1 n1 sF nF r ∧ all ++ (r1 ++ r) = lF
 good : Good s
 asked : n ≤ all.length
 size : s.rest.size + (lists cs).flatten.length ≤ 16384
theorem ToHear.round {ans : Nat → Int} {conn : Int} {c : ByteArray} {cs : List ByteArray} {s : Mq} {n : Nat} {all : List BAct} {sF : Mq} {lF : List BAct} (h : ToHear ans conn (c :: cs) s n all sF lF) : ∃ k, ToDrain ans conn cs (k + 1) (plus s c.data.toList) n all sF lF := by
 obtain ⟨⟨nF, r, hh, ha⟩, hg, hn, hz⟩ := h
 have e : lists (c :: cs) = c.data.toList :: lists cs := rfl
 rw [e] at hh hz
 cases hh with
 | cons hd h2 =>
  rename_i k s1 n1 r1 r2
  refine ⟨k, ⟨fun h => by omega, fun k' hk => ?_, plus_good _ hg, hn, ?_⟩⟩
  ·
   obtain rfl : k' = k := by omega
   exact ⟨_, _, _, _, _, hd, h2, ha⟩
  ·
   rw [plus_size]; simp only [List.flatten_cons, List.length_append] at hz; omega
theorem ToHear.end_ {ans : Nat → Int} {conn : Int} {s : Mq} {n : Nat} {all : List BAct} {sF : Mq} {lF : List BAct} (h : ToHear ans conn [] s n all sF lF) : s = sF ∧ all = lF := by
 obtain ⟨⟨nF, r, hh, ha⟩, _, _, _⟩ := h
 cases hh
 exact ⟨rfl, by simpa using ha⟩
structure ToTell (ans : Nat → Int) (conn : Int) (cs : List ByteArray) (kq : Nat) (s : Mq) (n : Nat) (all l : List BAct) (sF : Mq) (lF : List BAct) : Prop where
 acts : ∀ a ∈ l, ActIs s.client a
 ok : MqOk s
 flow : s.down = false → Flow s.codes.length l
 asked : n + l.length ≤ all.length
 then_ : ToDrain ans conn cs kq (tellM ans s n l).1 (tellM ans s n l).2.1 (all ++ (tellM ans s n l).2.2) sF lF
theorem Pl.in_ {w0 W : World} {rb cb sb : Nat} {xc : Array Value} {s : Mq} {vW vC vA : Value} {all : List BAct} (h : Pl w0 W rb cb sb xc s vW vC vA all) (hm : MqOk s) : ∃ AW cW AC cC, vW = .slice AW s.will.length cW ∧ vC = .slice AC s.codes.length cC ∧ MqIn W s AW cW AC cC := by
 obtain ⟨AW, cW, rfl⟩ := Kd.R_slice h.will
 obtain ⟨AC, cC, rfl⟩ := Kd.R_slice h.codes
 obtain ⟨_, h1, h2⟩ := Kd.R_reads' h.will
 obtain ⟨_, h3, h4⟩ := Kd.R_reads' h.codes
 exact ⟨AW, cW, AC, cC, rfl, rfl, ⟨h2, h1, h4, h3, by have := hm.will; omega, by have := hm.codes; omega⟩⟩
theorem Pl.inn {w0 W : World} {rb cb sb : Nat} {xc : Array Value} {s : Mq} {AW AC : Option Addr} {nW cW nC cC : Nat} {vA : Value} {all : List BAct} (h : Pl w0 W rb cb sb xc s (.slice AW nW cW) (.slice AC nC cC) vA all) (hm : MqOk s) : nW = s.will.length ∧ nC = s.codes.length ∧ MqIn W s AW cW AC cC := by
 obtain ⟨e1, h1, h2⟩ := Kd.R_reads' h.will
 obtain ⟨e2, h3, h4⟩ := Kd.R_reads' h.codes
 subst e1 e2
 exact ⟨rfl, rfl, ⟨h2, h1, h4, h3, by have := hm.will; omega, by have := hm.codes; omega⟩⟩
theorem ToDrain.next {ans : Nat → Int} {conn : Int} {cs : List ByteArray} {g : Nat} {s : Mq} {n : Nat} {all : List BAct} {sF : Mq} {lF : List BAct} {a : Mq} {l : List BAct} {b : Bool} (h : ToDrain ans conn cs (g + 1) s n all sF lF) (hn : nextM s conn = (a, l, b)) :
  ∃ kq, kq ≤ g ∧ b = decide (0 < kq) ∧ Good a ∧ l.length ≤ 34 ∧ (all ++ l).length ≤ lF.length ∧ ToTell ans conn cs kq a n (all ++ l) l sF lF := by
 obtain ⟨s1, n1, r1, nF, r, hd, hh, ha⟩ := h.more g rfl
 obtain ⟨g1, g2, g3, g4, g5, g6, g7⟩ := nextM_ok h.good hn
 have hz := h.size
 cases hd with
 | stop h0 =>
  rw [hn] at h0
  simp only [Prod.mk.injEq] at h0
  obtain ⟨rfl, rfl, rfl⟩ := h0
  refine ⟨0, Nat.le_refl _, rfl, g1, g4, ?_, ⟨g2, g1.1, g3, by simpa using h.asked, ?_⟩⟩
  ·
   rw [← ha]; simp
  ·
   refine ⟨fun _ => ⟨⟨nF, r, hh, by simpa [tellM] using ha⟩, g1, by simpa [tellM] using h.asked, by simp only [tellM]; omega⟩, fun k hk => by omega, g1, by simpa [tellM] using h.asked, by simp only [tellM]; omega⟩
 | step h0 h2 =>
  rename_i k a' l' r'
  rw [hn] at h0
  simp only [Prod.mk.injEq] at h0
  obtain ⟨rfl, rfl, rfl⟩ := h0
  obtain ⟨t1, t2, t3, t4⟩ := tellM_ok ans l a n g2 g1.1 g3
  have tn : ∀ (l : List BAct) (s : Mq) (n : Nat), (tellM ans s n l).2.1 ≤ n + l.length := by
   intro l
   induction l with
   | nil => intro s n; simp [tellM]
   | cons x l ih =>
    intro s n
    unfold tellM
    split
    ·
     have := ih (toldM s x.ref x.text (numOf x.text) (ans n)).1 (n + 1); simp only [List.length_cons]; omega
    ·
     have := ih s n; simp only [List.length_cons]; omega
  refine ⟨k + 1, Nat.le_refl _, by simp, g1, g4, ?_, ⟨g2, g1.1, g3, by have := h.asked; simp only [List.length_append]; omega, ?_⟩⟩
  ·
   rw [← ha]; simp only [List.length_append]; omega
  ·
   refine ⟨fun hk => by omega, fun k' hk => ?_, t1, ?_, by omega⟩
   ·
    obtain rfl : k' = k := by omega
    exact ⟨_, _, _, _, _, h2, hh, by rw [← ha]; simp only [List.append_assoc]⟩
   ·
    have := tn l a n; have := h.asked; simp only [List.length_append]; omega
theorem ToDrain.len {ans : Nat → Int} {conn : Int} {cs : List ByteArray} {kq : Nat} {s : Mq} {n : Nat} {all : List BAct} {sF : Mq} {lF : List BAct} (h : ToDrain ans conn cs kq s n all sF lF) : all.length ≤ lF.length := by
 cases kq with
 | zero => obtain ⟨nF, r, _, ha⟩ := (h.over rfl).heard; rw [← ha]; simp
 | succ k => obtain ⟨_, _, r1, _, r, _, _, ha⟩ := h.more k rfl; rw [← ha]; simp
theorem ToTell.len {ans : Nat → Int} {conn : Int} {cs : List ByteArray} {kq : Nat} {s : Mq} {n : Nat} {all l : List BAct} {sF : Mq} {lF : List BAct} (h : ToTell ans conn cs kq s n all l sF lF) : all.length ≤ lF.length := by
 have := h.then_.len
 rw [List.length_append] at this; omega
theorem ToTell.skip {ans : Nat → Int} {conn : Int} {cs : List ByteArray} {kq : Nat} {s : Mq} {n : Nat} {all l : List BAct} {x : BAct} {sF : Mq} {lF : List BAct} (h : ToTell ans conn cs kq s n all (x :: l) sF lF) (hk : x.kind ≠ 2) : ToTell ans conn cs kq s n all l sF lF := by
 obtain ⟨h1, h2, h3, h4, h5⟩ := h
 have e : tellM ans s n (x :: l) = tellM ans s n l := by rw [tellM, if_neg hk]
 rw [e] at h5
 refine ⟨fun a ha => h1 a (List.mem_cons_of_mem _ ha), h2, fun hd => ?_, by simp only [List.length_cons] at h4; omega, h5⟩
 have := h3 hd
 unfold Flow at this
 rwa [if_neg (fun x => hk x.1)] at this
theorem ToTell.tell {ans : Nat → Int} {conn : Int} {cs : List ByteArray} {kq : Nat} {s : Mq} {n : Nat} {all l : List BAct} {x : BAct} {sF : Mq} {lF : List BAct} (h : ToTell ans conn cs kq s n all (x :: l) sF lF) (hk : x.kind = 2) : ToTell ans conn cs kq (toldM s x.ref x.text (numOf x.text) (ans n)).1 (n + 1) (all ++ (toldM s x.ref x.text (numOf x.text) (ans n)).2) l sF lF := by
 obtain ⟨h1, h2, h3, h4, h5⟩ := h
 obtain ⟨t1, t2, t3, t4, t5, t6⟩ := toldM_ok (h1 x (by simp)) hk h2 h3 (ans n)
 rw [tellM, if_pos hk] at h5
 refine ⟨fun a ha => by rw [t2]; exact h1 a (List.mem_cons_of_mem _ ha), t1, t3, by simp only [List.length_cons, List.length_append] at h4 ⊢; omega, ?_⟩
 simpa only [List.append_assoc] using h5
theorem ToTell.lt {ans : Nat → Int} {conn : Int} {cs : List ByteArray} {kq : Nat} {s : Mq} {n : Nat} {all l : List BAct} {x : BAct} {sF : Mq} {lF : List BAct} (h : ToTell ans conn cs kq s n all (x :: l) sF lF) (hk : x.kind = 2) (hd : s.down = false) (hr : x.ref = 3) : s.codes.length < 32 := by
 have := h.flow hd
 unfold Flow at this
 rw [if_pos ⟨hk, hr⟩] at this
 exact this.1
theorem act_text {client : ByteArray} {x : BAct} (h : ActIs client x) (hk : x.kind = 2) : (x.text = itoaB (numOf x.text) ∧ 1 ≤ numOf x.text ∧ numOf x.text ≤ 65535) ∨ (x.text = ⟨#[]⟩ ∧ numOf x.text = 0 ∧ x.ref ≠ 4 ∧ x.ref ≠ 5 ∧ x.ref ≠ 6) := by
 cases h with
 | say b _ _ => cases hk
 | fin => cases hk
 | bare ref ops hr _ _ _ => right; exact ⟨rfl, rfl, by show ref ≠ 4; omega, by show ref ≠ 5; omega, by show ref ≠ 6; omega⟩
 | bind o _ => right; exact ⟨rfl, rfl, by simp [doAct], by simp [doAct], by simp [doAct]⟩
 | last o id h1 h2 _ => left; show itoaB id = itoaB (numOf (itoaB id)) ∧ 1 ≤ numOf (itoaB id) ∧ numOf (itoaB id) ≤ 65535; rw [numOf_itoa]; exact ⟨rfl, h1, h2⟩
 | rel o id h1 h2 _ => left; show itoaB id = itoaB (numOf (itoaB id)) ∧ 1 ≤ numOf (itoaB id) ∧ numOf (itoaB id) ≤ 65535; rw [numOf_itoa]; exact ⟨rfl, h1, h2⟩
 | ack o id h1 h2 _ _ => left; show itoaB id = itoaB (numOf (itoaB id)) ∧ 1 ≤ numOf (itoaB id) ∧ numOf (itoaB id) ≤ 65535; rw [numOf_itoa]; exact ⟨rfl, h1, h2⟩
 | recd o id h1 h2 _ _ _ _ => left; show itoaB id = itoaB (numOf (itoaB id)) ∧ 1 ≤ numOf (itoaB id) ∧ numOf (itoaB id) ≤ 65535; rw [numOf_itoa]; exact ⟨rfl, h1, h2⟩
theorem heard_calls (conn : Int) (hc0 : 0 ≤ conn) (hc1 : conn ≤ 9223372036854775807) (chunks : List ByteArray) (answers : List Int) (AH : Option Addr) (nH cH : Nat) (v0 vO : Value) (AA : Option Addr) (nA cA : Nat) (w : World) (hG : WI w) (hC : Kd.string.C w AH nH chunks) (hA : (Kd.int .i64).C w AA nA answers) (hnH : nH ≤ 16384) (hnA : nA ≤ 16384)
  (sF : Mq) (nF : Nat) (lF : List BAct) (hH : Heard (ansF answers) conn (lists chunks) newMq 0 sF nF lF) (hz : (lists chunks).flatten.length ≤ 16384) :
  Calls Tryz.prog 23 #[.int .i64 conn, .slice AH nH cH, .agg #[v0, .slice AA nA cA, vO]] w (TQ w (sF, lF)) := by
 have HG := Amk hG
 have HC := Amk hC
 have HA := Amk hA
 have HCN := Amk (And.intro hc0 hc1)
 have hg0 : Good newMq := ⟨⟨by simp [newMq], by simp [newMq], by simp [newMq], by simp [newMq, ByteArray.size]⟩, fun _ => rfl⟩
 have HLF : Aside0 (lF.length ≤ 557124) := ⟨by
  have := (hH.ok hg0).2.1
  have hl : left newMq = 2 := by simp [left, newMq, ByteArray.size]
  rw [hl] at this; omega⟩
 have HT : Aside0 (ToHear (ansF answers) conn chunks newMq 0 [] sF lF) := ⟨⟨⟨nF, lF, hH, rfl⟩, hg0, by simp, by simpa [newMq, ByteArray.size] using hz⟩⟩
 have HNW := Amk new_calls
 clear hG hC hA hc0 hc1 hH hz hg0
 have HBC : Aside0 (((w.alloc (.cells #[v0, .slice AA nA cA, vO] 41)).alloc (.cells zero7 45)).heap[w.heap.size]? = some (.cells #[v0, .slice AA nA cA, vO] 41 (0, 0))) := ⟨blk_alloc (heap_alloc_new w _) _⟩
 have HBR : Aside0 (((w.alloc (.cells #[v0, .slice AA nA cA, vO] 41)).alloc (.cells zero7 45)).heap[w.heap.size + 1]? = some (.cells zero7 45 (0, 0))) := ⟨by have := heap_alloc_new (w.alloc (.cells #[v0, .slice AA nA cA, vO] 41)) (.cells zero7 45); rwa [World.size_alloc] at this⟩
 go_enter Tryz.func23, Tryz.ntmps23
 go_wp2_with (first
  | (go_at_call 26; refine Calls.mono (HNW.out _) ?_; rintro e w1 ⟨rfl, hb⟩; have HC1 := Amk ((hb.block _ (blt HBC.out)).trans HBC.out); have HR1 := Amk ((hb.block _ (blt HBR.out)).trans HBR.out); have HB1 : Aside0 (Below w.heap.size w w1) := ⟨bth (bal (bal (Below.refl _ _) _) _) (by simp; omega) hb⟩; have HS1 : Aside0 (w.heap.size + 2 ≤ w1.heap.size) := ⟨Nat.le_trans (by simp) hb.size⟩; clear hb)
  | ((with_reducible refine gate_store (t := 45) (p := 8) rfl ?_); refine wpList_store_blk 45 (.tmp 8) (.tmp 21) rfl rfl rfl (g := w1.heap.size) (e := 45) (.agg zero7) zero7.toList rfl rfl rfl (heap_alloc_new w1 _) (by kernel_rfl) rfl (by simp [zero7, Value.oneCell']) ?_; intro W1 hw; have HW1 := Amk hw; clear hw))
 have HP : Aside0 (Pl w W1 (w.heap.size + 1) w.heap.size w1.heap.size #[v0, .slice AA nA cA, vO] newMq (.slice none 0 0) (.slice none 0 0) (.slice none 0 0) []) := ⟨⟨HW1.out.blk, HW1.out.blk_ (blk_alloc HR1.out _) (by have := HS1.out; omega), HW1.out.blk_ (blk_alloc HC1.out _) (by have := HS1.out; omega), Kd.R_nil _ _ _ _ _, Kd.R_nil _ _ _ _ _, Kd.R_nil _ _ _ _ _, HW1.out.below (bal HB1.out _) (Nat.le_trans HB1.out.size (by simp)) HB1.out.size, HB1.out.size, by have := HS1.out; omega⟩⟩
 generalize w1.heap.size = sb at *
 clear HW1 HB1 HR1 HC1 HBC HBR HS1 HNW
 go_loopg [9, 10, 24] nH (fun kq v9 v10 v24 wx => ∃ (j n : Nat) (s : Mq) (vW vC : Value) (Al : Option Addr) (nl cl : Nat) (all : List BAct), v9 = .slice Al nl cl ∧ v10 = .int .i64 (n : Nat) ∧ v24 = .int .i64 (j : Nat) ∧ j + kq = nH ∧ Aside0 (Pl w wx (w.heap.size + 1) w.heap.size sb #[v0, .slice AA nA cA, vO] s vW vC (.slice Al nl cl) all) ∧ Aside0 (ToHear (ansF answers) conn (chunks.drop j) s n all sF lF))
 case atStart => exact ⟨0, 0, newMq, _, _, _, _, _, [], rfl, rfl, rfl, by omega, HP, HT⟩
 case round =>
  obtain ⟨j, n, s, vW, vC, Al, nl, cl, all, rfl, rfl, rfl, hj, HP1, HT1⟩ := hrel
  clear HP HT
  cases gk with
  | zero =>
   have hge : decide ((j : Int) < (nH : Int)) = false := decide_eq_false (by omega)
   have hge2 : decide (j < nH) = false := decide_eq_false (by omega)
   have hjn : chunks.drop j = [] := by rw [List.drop_eq_nil_iff]; have := HC.out.1; omega
   obtain ⟨hs, hl⟩ : s = sF ∧ all = lF := by have := HT1.out; rw [hjn] at this; exact this.end_
   subst hs hl
   clear hjn
   obtain ⟨AW, nW, cW, rfl, _⟩ := R_parts HP1.out.will
   obtain ⟨AC, nC, cC, rfl, _⟩ := R_parts HP1.out.codes
   go_wp2_with (first
    | ((with_reducible refine gate_dst (N := 73) rfl ?_); refine wpList_load_row rfl 45 (.tmp 8) rfl sb rfl 45 (mqCells s (.slice AW nW cW) (.slice AC nC cC)) (0, 0) _ HP1.out.sblk Tryz.underlying45 rfl (by kernel_rfl) ?_)
    | ((with_reducible refine gate_store (t := 45) (p := 6) rfl ?_); refine wpList_store_blk 45 (.tmp 6) (.tmp 73) rfl rfl rfl (g := w.heap.size + 1) (e := 45) (.agg (mqCells s (.slice AW nW cW) (.slice AC nC cC))) (mqCells s (.slice AW nW cW) (.slice AC nC cC)).toList rfl rfl rfl HP1.out.rblk (by kernel_rfl) rfl (by simp [mqCells, Value.oneCell']) ?_; intro W6 hw; have HW6 := Amk hw; clear hw))
   refine bodyPost_ret (heard_results rfl rfl HW6.out.blk rfl) rfl ?_
   exact ⟨_, _, _, rfl, R_wrote HP1.out.will HW6.out HP1.out.rblk (by decide), R_wrote HP1.out.codes HW6.out HP1.out.rblk (by decide), R_wrote HP1.out.row HW6.out HP1.out.rblk (by decide), HW6.out.below HP1.out.bel HP1.out.sz (Nat.le_succ _)⟩
  | succ g =>
   have hlt : decide ((j : Int) < (nH : Int)) = true := decide_eq_true (by omega)
   have hlt2 : decide (j < nH) = true := decide_eq_true (by omega)
   have hjb : j < 1048576 := by omega
   have hjl : j < chunks.length := by have := HC.out.1; omega
   obtain ⟨ad, rfl, hcell⟩ := Kd.at_string (Kd.C_below HC.out HP1.out.bel) (j : Int) (by omega) (by omega)
   simp only [Int.toNat_natCast] at hcell
   obtain ⟨c, hc⟩ : ∃ c, rdOf ByteArray.empty chunks (j : Int) = c := ⟨_, rfl⟩
   rw [hc] at hcell
   have hcn : chunks.drop j = c :: chunks.drop (j + 1) := by rw [List.drop_eq_getElem_cons hjl, ← hc]; simp [rdOf, hjl]
   have HT2 := HT1
   rw [hcn] at HT2
   obtain ⟨⟨cl0⟩⟩ := c
   obtain ⟨k0, HTD0⟩ := HT2.out.round
   have HTD := Amk HTD0
   have hsz := HT2.out.size
   have hIS : s.rest.size + (⟨⟨cl0⟩⟩ : ByteArray).size ≤ 9223372036854775807 := by
    have e : (lists (⟨⟨cl0⟩⟩ :: chunks.drop (j + 1))).flatten.length = cl0.length + (lists (chunks.drop (j + 1))).flatten.length := by simp [lists]
    have : (⟨⟨cl0⟩⟩ : ByteArray).size = cl0.length := rfl
    omega
   have cr := (HP1.out.cell 0).trans (show _ = some (Value.string s.rest) from rfl)
   have zr := HP1.out.frozen 0
   have HP2 := Amk (HP1.out.rest (s.rest ++ ⟨⟨cl0⟩⟩))
   clear HT2 HTD0 hcn hc hsz
   go_wp2_with fail
   generalize wr.setCell ⟨sb, 0, none⟩ (.string (s.rest ++ ⟨⟨cl0⟩⟩)) = wb at *
   clear cr zr hIS hcell hlt hlt2 HT1 HP1
   go_loopg [13, 9, 10] (k0 + 1) (fun kq v13 v9 v10 wx => ∃ (n : Nat) (s : Mq) (vW vC : Value) (Al : Option Addr) (nl cl : Nat) (all : List BAct), v13 = .bool (decide (0 < kq)) ∧ v9 = .slice Al nl cl ∧ v10 = .int .i64 (n : Nat) ∧ Aside0 (Pl w wx (w.heap.size + 1) w.heap.size sb #[v0, .slice AA nA cA, vO] s vW vC (.slice Al nl cl) all) ∧ Aside0 (ToDrain (ansF answers) conn (chunks.drop (j + 1)) kq s n all sF lF))
   case atStart => exact ⟨n, _, _, _, _, _, _, all, rfl, rfl, rfl, HP2, HTD⟩
   case round =>
    clear HP2 HTD
    obtain ⟨n, s, vW, vC, Al, nl, cl, all, hv13, rfl, rfl, HP3, HTD⟩ := hrel
    cases gk with
    | zero =>
     simp only [Nat.lt_irrefl, decide_false] at hv13
     subst hv13
     have HTH := Amk (HTD.out.over rfl)
     go_wp2_with fail
     go_roundg g
     case rel => exact ⟨j + 1, n, s, vW, vC, Al, nl, cl, all, rfl, rfl, by go_num, by omega, HP3, HTH⟩
     case measure => omega
    | succ gB =>
     simp only [Nat.zero_lt_succ, decide_true] at hv13
     subst hv13
     have hgd := HTD.out.good
     obtain ⟨a, l, b, hnx⟩ : ∃ a l b, nextM s conn = (a, l, b) := ⟨_, _, _, rfl⟩
     obtain ⟨kq, hkq, hb, hga, hl34, hlF, htt⟩ := HTD.out.next hnx
     obtain ⟨AW, cW, AC, cC, rfl, rfl, hIn⟩ := HP3.out.in_ hgd.1
     have HNX : Aside0 (Calls Tryz.prog 27 #[.agg (mqCells s (.slice AW s.will.length cW) (.slice AC s.codes.length cC)), .int .i64 conn] wr (NQ wr (a, l, b))) := ⟨hnx ▸ mqnext_calls s AW cW AC cC conn wr hIn (HG.out.below HP3.out.bel) hgd HCN.out.1 HCN.out.2⟩
     have HTT := Amk htt
     have HLL : Aside0 ((all ++ l).length ≤ 557124) := ⟨Nat.le_trans hlF HLF.out⟩
     have HKQ := Amk hkq
     have HBQ := Amk hb
     have HL34 := Amk hl34
     clear HTD hgd hnx hga hlF htt hIn hkq hb hl34
     generalize s.will.length = nW at *
     generalize s.codes.length = nC at *
     go_wp2_with (first
      | ((with_reducible refine gate_dst (N := 35) rfl ?_); refine wpList_load_row rfl 45 (.tmp 8) rfl sb rfl 45 (mqCells s (.slice AW nW cW) (.slice AC nC cC)) (0, 0) _ HP3.out.sblk Tryz.underlying45 rfl (by kernel_rfl) ?_)
      | (go_at_call 27; refine Calls.mono HNX.out ?_; rintro e w2 ⟨v1, v2, v3, rfl, hr1, hr2, hr3, hb⟩; have HP4 := Amk (HP3.out.below hb); have HR1 := Amk hr1; have HR2 := Amk hr2; have HR3 := Amk hr3; have HLR := Amk (row_new HP3.out.row hr3); have HZ2 := Amk (Nat.le_trans HP3.out.sz (Nat.le_refl _)); clear hr1 hr2 hr3 hb; obtain ⟨A1, n1, c1, rfl, HN1⟩ := R_parts HR1.out; obtain ⟨A2, n2, c2, rfl, HN2⟩ := R_parts HR2.out; obtain ⟨AL, nL, cL, rfl, HNL⟩ := R_parts HR3.out)
      | ((with_reducible refine gate_store (t := 45) (p := 14) rfl ?_); refine wpList_store_blk 45 (.tmp 14) (.tmp 38) rfl rfl rfl (g := w2.heap.size) (e := 45) (.agg (mqCells a (.slice A1 n1 c1) (.slice A2 n2 c2))) (mqCells a (.slice A1 n1 c1) (.slice A2 n2 c2)).toList rfl rfl rfl (heap_alloc_new w2 _) (by kernel_rfl) rfl (by simp [mqCells, Value.oneCell']) ?_; intro W3 hw; have HB3 := Amk (hw.below (bal (Below.refl w2.heap.size w2) _) (by simp) (Nat.le_refl _)); have HA3 := Amk hw.blk; clear hw; have HP5 := Amk (HP4.out.below HB3.out))
      | ((with_reducible refine gate_dst (N := 41) rfl ?_); refine wpList_load_row rfl 45 (.tmp 14) rfl w2.heap.size rfl 45 (mqCells a (.slice A1 n1 c1) (.slice A2 n2 c2)) (0, 0) _ HA3.out Tryz.underlying45 rfl (by kernel_rfl) ?_)
      | ((with_reducible refine gate_store (t := 45) (p := 8) rfl ?_); refine wpList_store_blk 45 (.tmp 8) (.tmp 41) rfl rfl rfl (g := sb) (e := 45) (.agg (mqCells a (.slice A1 n1 c1) (.slice A2 n2 c2))) (mqCells a (.slice A1 n1 c1) (.slice A2 n2 c2)).toList rfl rfl rfl HP5.out.sblk (by kernel_rfl) rfl (by simp [mqCells, Value.oneCell']) ?_; intro W4 hw; have HP6 := Amk (HP5.out.store (s' := a) (vW' := .slice A1 n1 c1) (vC' := .slice A2 n2 c2) hw (Kd.R_lower (Kd.R_below HR1.out HB3.out) HP3.out.sz) (Kd.R_lower (Kd.R_below HR2.out HB3.out) HP3.out.sz)); have HL6 := Amk (R_wroteG (Kd.R_lower (Kd.R_below HLR.out HB3.out) HP3.out.sz) hw HP5.out.sblk (by decide)); clear hw)
      | ((with_reducible refine gate_builtin (b := .append) (xs := #[.tmp 43, .tmp 44]) rfl ?_); at_builtin; obtain ⟨AX, cX, hvx, hcx, hrx⟩ := acts_row HL6.out; injection hvx with hx1 hx2 hx3; rw [← hx1, ← hx2] at hrx; refine Kd.R_append_rows kAct (Rr := kAct.M W4 w.heap.size (fun _ => True)) (w0 := w) w.heap.size rfl (.tmp 43) (.tmp 44) 46 57 _ 72 rfl Tryz.underlying46 info57 rfl (by decide) (by decide) (.slice Al nl cl) all l AL nL cL (fun _ => True) (fun k => True ∧ some k ≠ (Value.slice Al nl cl).ownBlock) rfl rfl HP6.out.row hrx (acts_apart HP6.out.row) (fun _ hk => hk) (fun _ _ => trivial) HP6.out.bel HP6.out.sz (by have := HLL.out; simp only [List.length_append] at this; have := HNL.out; omega) ?_; intro v5 w5 hR hB hG hat; have HP7 := Amk (HP6.out.grown hG hB hR); have HL7 := Amk (row_step HL6.out hG hat); clear hR hB hG hat hrx hx1 hx2 hx3 hcx; obtain ⟨A5, n5, c5, rfl, HN5⟩ := R_parts HP7.out.row))
     clear HP3 HNX HP4 HR1 HR2 HR3 HLR HZ2 HP5 HB3 HA3 HP6 HL6 HLL
     go_loopg [48, 9, 10] nL (fun kq' v48 v9 v10 wx => ∃ (i n : Nat) (s : Mq) (vW vC : Value) (Al : Option Addr) (nl cl : Nat) (all : List BAct), v48 = .int .i64 (i : Nat) ∧ v9 = .slice Al nl cl ∧ v10 = .int .i64 (n : Nat) ∧ i + kq' = nL ∧ Aside0 (Pl w wx (w.heap.size + 1) w.heap.size sb #[v0, .slice AA nA cA, vO] s vW vC (.slice Al nl cl) all) ∧ Aside0 (kAct.R 57 wx w.heap.size (fun k => some k ≠ (Value.slice Al nl cl).ownBlock) (.slice AL nL cL) l) ∧ Aside0 (ToTell (ansF answers) conn (chunks.drop (j + 1)) kq s n all (l.drop i) sF lF))
     case atStart => exact ⟨0, n, _, _, _, _, _, _, _, rfl, rfl, rfl, by omega, HP7, HL7, HTT⟩
     case round =>
      clear HP7 HL7 HTT
      obtain ⟨i, n, s, vW, vC, Al, nl, cl, all, rfl, rfl, rfl, hi, HP8, HL8, HTT⟩ := hrel
      cases gk with
      | zero =>
       have hge : decide ((i : Int) < (nL : Int)) = false := decide_eq_false (by omega)
       have hge2 : decide (i < nL) = false := decide_eq_false (by omega)
       have HTD : Aside0 (ToDrain (ansF answers) conn (chunks.drop (j + 1)) kq s n all sF lF) := ⟨by
        have h := HTT.out.then_
        have : l.drop i = [] := by rw [List.drop_eq_nil_iff]; have := HNL.out; omega
        rw [this] at h
        simpa [tellM] using h⟩
       go_wp2_with fail
       go_roundg kq
       case rel => exact ⟨n, s, vW, vC, Al, nl, cl, all, by rw [HBQ.out], rfl, rfl, HP8, HTD⟩
       case measure => have := HKQ.out; omega
      | succ gC =>
       have hlt : decide ((i : Int) < (nL : Int)) = true := decide_eq_true (by omega)
       have hlt2 : decide (i < nL) = true := decide_eq_true (by omega)
       have hil : i < l.length := by have := HNL.out; omega
       have hib : i < 1048576 := by have := HL34.out; have := HNL.out; omega
       obtain ⟨x, hx⟩ : ∃ x, l[i] = x := ⟨_, rfl⟩
       have hxd : l.drop i = x :: l.drop (i + 1) := by rw [List.drop_eq_getElem_cons hil, hx]
       rw [hxd] at HTT
       obtain ⟨bg, cap, hvg, _, _, _⟩ := Kd.R_form HL8.out (by omega)
       injection hvg with hAg hng hcapg
       subst hAg
       obtain ⟨cs, hcl, hM, hcc, hz⟩ := Kd.R_elem HL8.out endAct (i : Int) (by omega) (by omega)
       have hgx : l.getD (i : Int).toNat endAct = x := by rw [← hx]; simp [hil]
       rw [hgx] at hM
       obtain ⟨v2, rfl, g2⟩ := kAct_openM hM
       obtain ⟨AO, nO, cO, rfl, _⟩ := R_parts g2
       obtain ⟨kind, bytes, ops, ref, text⟩ := x
       have hrange : Aside0 (wr.rangeAt bg (i * 5) [.int .i64 kind, .string bytes, .slice AO nO cO, .int .i64 ref, .string text]) := ⟨fun q u hu => hcc q u hu⟩
       clear hcc hz hcl hM g2 hgx hx hng hcapg hxd
       by_cases hk : kind = 2
       ·
        subst hk
        obtain ⟨tm, tk, htm⟩ : ∃ tm tk, toldM s ref text (numOf text) (ansF answers n) = (tm, tk) := ⟨_, _, rfl⟩
        have HTT2 : Aside0 (ToTell (ansF answers) conn (chunks.drop (j + 1)) kq tm (n + 1) (all ++ tk) (l.drop (i + 1)) sF lF) := ⟨by have h := HTT.out.tell (x := ⟨2, bytes, ops, ref, text⟩) rfl; rw [htm] at h; exact h⟩
        have hlt3 := HTT.out.lt (x := ⟨2, bytes, ops, ref, text⟩) rfl
        have htx := act_text (HTT.out.acts ⟨2, bytes, ops, ref, text⟩ (by simp)) rfl
        have hmok := HTT.out.ok
        have hnb : n ≤ 557124 := by have := HTT.out.asked; have := HTT.out.len; have := HLF.out; omega
        have HLL : Aside0 ((all ++ tk).length ≤ 557124) := ⟨Nat.le_trans HTT2.out.len HLF.out⟩
        obtain ⟨AW, nW, cW, rfl, _⟩ := R_parts HP8.out.will
        obtain ⟨AC, nC, cC, rfl, _⟩ := R_parts HP8.out.codes
        go_upto_region 17 with (first | ((with_reducible refine gate_dst (N := 51) rfl ?_); refine wpList_load_mid rfl 57 (.tmp 50) rfl bg (i * 5) rfl [.int .i64 2, .string bytes, .slice AO nO cO, .int .i64 ref, .string text] _ hrange.out Tryz.underlying57 rfl (by kernel_rfl) ?_) | ((with_reducible refine gate_store (t := 57) (p := 18) rfl ?_); refine wpList_store_blk 57 (.tmp 18) (.tmp 51) rfl rfl rfl (g := wr.heap.size) (e := 57) (.agg #[.int .i64 2, .string bytes, .slice AO nO cO, .int .i64 ref, .string text]) [.int .i64 2, .string bytes, .slice AO nO cO, .int .i64 ref, .string text] rfl rfl rfl (heap_alloc_new wr _) (by kernel_rfl) rfl (by simp [Value.oneCell']) ?_; intro W3 hw; have HB3 := Amk (hw.below (bal (Below.refl wr.heap.size wr) _) (by simp) (Nat.le_refl _)); have HX3 := Amk hw.blk; clear hw; have HP9 := Amk (HP8.out.below HB3.out); have HL9 := Amk (Kd.R_below HL8.out HB3.out); have ck := (bqc HX3.out 0).trans (show _ = some (Value.int .i64 2) from rfl)))
        have HTold : Aside0 (∀ W, Below W3.heap.size W3 W → Calls Tryz.prog 30 #[.agg (mqCells s (.slice AW nW cW) (.slice AC nC cC)), .int .i64 conn, .agg #[.int .i64 2, .string bytes, .slice AO nO cO, .int .i64 ref, .string text], .int .i64 (ansF answers n)] W (TQ W (tm, tk))) := ⟨fun W hB => by
         obtain ⟨h1, h2, h3⟩ := (HP9.out.below hB).inn hmok
         have h := told_calls s AW cW AC cC conn 2 ref (ansF answers n) bytes text AO nO cO (numOf text) W h3 (HG.out.below (HP9.out.below hB).bel) hmok hlt3 htx
         rw [htm] at h
         rw [h1, h2]
         exact h⟩
        have HAns : Aside0 (∀ W, Below W3.heap.size W3 W → Calls Tryz.prog 29 #[.agg #[v0, .slice AA nA cA, vO], .int .i64 n] W fun e w' => e = .returned (.int .i64 (ansF answers n)) ∧ Below W.heap.size W w') := ⟨fun W hB => answer_calls v0 vO AA nA cA answers n (by omega) (by omega) W (Kd.C_below HA.out (HP9.out.below hB).bel)⟩
        have HS17 := Amk (And.intro HP9.out.sblk (And.intro HX3.out HP9.out.cblk))
        clear htm hlt3 htx hmok ck
        go_cut [19, 20] (fun s19 s20 wx => ∃ ab A1' n1' c1' A2' n2' c2' AK nK cK, s19 = .pointer (some ⟨ab, 0, none⟩) ∧ s20 = .slice AK nK cK ∧ Aside0 (Below W3.heap.size W3 wx) ∧ Aside0 (wx.heap[ab]? = some (.cells (mqCells tm (.slice A1' n1' c1') (.slice A2' n2' c2')) 45 (0, 0))) ∧ Aside0 (kOp.R 64 wx W3.heap.size (fun _ => True) (.slice A1' n1' c1') tm.will) ∧ Aside0 ((Kd.int .i64).R 3 wx W3.heap.size (fun _ => True) (.slice A2' n2' c2') tm.codes) ∧ Aside0 (kAct.R 57 wx W3.heap.size (fun _ => True) (.slice AK nK cK) tk))
        case first =>
         refine wp_region_held_drew (S := (fun W => W.heap[sb]? = some (.cells (mqCells s (.slice AW nW cW) (.slice AC nC cC)) 45 (0, 0)) ∧ W.heap[wr.heap.size]? = some (.cells #[.int .i64 2, .string bytes, .slice AO nO cO, .int .i64 ref, .string text] 57 (0, 0)) ∧ W.heap[w.heap.size]? = some (.cells #[v0, .slice AA nA cA, vO] 41 (0, 0)))) (by kernel_rfl) HS17.out (fun hHeld => ?_)
         refine tkH 0 (.agg (mqCells s (.slice AW nW cW) (.slice AC nC cC))) hHeld ?_ ?_; (focus intro w_ hSw; exact exec_load_row 45 (.tmp 8) rfl sb rfl 45 _ (0, 0) _ hSw.1 Tryz.underlying45 rfl (by kernel_rfl)); try simp only [Lga, Lgz, Lgs, Act.put, Lsa, Lsz, Lss]
         refine tkH 1 ?_ hHeld ?_ ?_; rotate_left; (focus intro w_ hSw; (try dsimp only at hSw); go_simp; (try simp only [hSw]); (try rfl)); rotate_left; try simp only [Lga, Lgz, Lgs, Act.put, Lsa, Lsz, Lss]
         refine tkH 2 (.agg #[.int .i64 2, .string bytes, .slice AO nO cO, .int .i64 ref, .string text]) hHeld ?_ ?_; (focus intro w_ hSw; exact exec_load_row 57 (.tmp 18) rfl wr.heap.size rfl 57 _ (0, 0) _ hSw.2.1 Tryz.underlying57 rfl (by kernel_rfl)); try simp only [Lga, Lgz, Lgs, Act.put, Lsa, Lsz, Lss]
         refine tkH 3 (.agg #[v0, .slice AA nA cA, vO]) hHeld ?_ ?_; (focus intro w_ hSw; exact exec_load_row 41 (.tmp 5) rfl w.heap.size rfl 41 _ (0, 0) _ hSw.2.2 Tryz.underlying41 rfl (by kernel_rfl)); try simp only [Lga, Lgz, Lgs, Act.put, Lsa, Lsz, Lss]
         refine tkH 4 ?_ hHeld ?_ ?_; rotate_left; (focus intro w_ hSw; (try dsimp only at hSw); go_simp; (try simp only [hSw]); (try rfl)); rotate_left; try simp only [Lga, Lgz, Lgs, Act.put, Lsa, Lsz, Lss]
         have HBD := Amk (bdr (Below.refl W3.heap.size W3))
         have HZ7 : Aside0 (∀ W : World, (W.alloc (.cells zero7 45)).heap[W.heap.size]? = some (.cells zero7 45 (0, 0))) := ⟨fun W => heap_alloc_new W _⟩
         refine wpAnyH_ready (rs := [5, 10]) (by kernel_rfl) (by simp) ?_
         refine AllReadyH.cons rfl (fun K hK => ?_) (AllReadyH.cons rfl (fun K hK => ?_) AllReadyH.nil)
         ·
          go_simp
          go_wp2_with (go_at_call 29; refine Calls.mono (HAns.out _ HBD.out) ?_; rintro e5 w5 ⟨rfl, hb5⟩; have HB5' := Amk hb5; have HB5 := Amk (bth HBD.out HBD.out.size hb5); clear hb5)
          (first | refine hK.out _ _ (And.intro ((HB5.out.block _ (blt HP9.out.sblk)).trans HP9.out.sblk) (And.intro ((HB5.out.block _ (blt HX3.out)).trans HX3.out) ((HB5.out.block _ (blt HP9.out.cblk)).trans HP9.out.cblk))) (fun hHeld => ?_) | refine hK _ _ (And.intro ((HB5.out.block _ (blt HP9.out.sblk)).trans HP9.out.sblk) (And.intro ((HB5.out.block _ (blt HX3.out)).trans HX3.out) ((HB5.out.block _ (blt HP9.out.cblk)).trans HP9.out.cblk))) (fun hHeld => ?_)); try simp only [Lga, Lgz, Lgs, Act.put, Lsa, Lsz, Lss]
          refine wpAnyH_ready (rs := [6, 10]) (by kernel_rfl) (by simp) ?_
          refine AllReadyH.cons rfl (fun K hK => ?_) (AllReadyH.cons rfl (fun K hK => ?_) AllReadyH.nil)
          ·
           go_simp
           go_wp2_with (go_at_call 30; refine Calls.mono (HTold.out _ HB5.out) ?_; rintro e6 w6 ⟨v1, v2, v3, rfl, hr1, hr2, hr3, hb6⟩; have HB6 := Amk (bth HB5.out HB5.out.size hb6); have HR1 := Amk (Kd.R_lower hr1 HB5.out.size); have HR2 := Amk (Kd.R_lower hr2 HB5.out.size); have HR3 := Amk (Kd.R_lower hr3 HB5.out.size); have HB6' := Amk hb6; clear hr1 hr2 hr3 hb6; obtain ⟨A1', n1', c1', rfl, _⟩ := R_parts HR1.out; obtain ⟨A2', n2', c2', rfl, _⟩ := R_parts HR2.out; obtain ⟨AK, nK, cK, rfl, HNK⟩ := R_parts HR3.out)
           (first | refine hK.out _ _ (And.intro ((HB6.out.block _ (blt HP9.out.sblk)).trans HP9.out.sblk) (And.intro ((HB6.out.block _ (blt HX3.out)).trans HX3.out) ((HB6.out.block _ (blt HP9.out.cblk)).trans HP9.out.cblk))) (fun hHeld => ?_) | refine hK _ _ (And.intro ((HB6.out.block _ (blt HP9.out.sblk)).trans HP9.out.sblk) (And.intro ((HB6.out.block _ (blt HX3.out)).trans HX3.out) ((HB6.out.block _ (blt HP9.out.cblk)).trans HP9.out.cblk))) (fun hHeld => ?_)); try simp only [Lga, Lgz, Lgs, Act.put, Lsa, Lsz, Lss]
           refine tkH 7 ?_ hHeld ?_ ?_; rotate_left; (focus intro w_ hSw; (try dsimp only at hSw); go_simp; (try simp only [hSw]); (try rfl)); rotate_left; try simp only [Lga, Lgz, Lgs, Act.put, Lsa, Lsz, Lss]
           refine tkH 8 ?_ hHeld ?_ ?_; rotate_left; (focus intro w_ hSw; (try dsimp only at hSw); go_simp; (try simp only [hSw]); (try rfl)); rotate_left; try simp only [Lga, Lgz, Lgs, Act.put, Lsa, Lsz, Lss]
           refine tkH 9 ?_ hHeld ?_ ?_; rotate_left; (focus intro w_ hSw; (try dsimp only at hSw); go_simp; (try simp only [hSw]); (try rfl)); rotate_left; try simp only [Lga, Lgz, Lgs, Act.put, Lsa, Lsz, Lss]
           refine wpAnyH_ready (rs := [10]) (by kernel_rfl) (by simp) ?_
           refine AllReadyH.cons rfl (fun K hK => ?_) AllReadyH.nil
           go_simp
           (first | refine hK.out _ _ (And.intro (((bal HB6.out (.cells zero7 45)).block _ (blt HP9.out.sblk)).trans HP9.out.sblk) (And.intro (((bal HB6.out (.cells zero7 45)).block _ (blt HX3.out)).trans HX3.out) (((bal HB6.out (.cells zero7 45)).block _ (blt HP9.out.cblk)).trans HP9.out.cblk))) (fun hHeld => ?_) | refine hK _ _ (And.intro (((bal HB6.out (.cells zero7 45)).block _ (blt HP9.out.sblk)).trans HP9.out.sblk) (And.intro (((bal HB6.out (.cells zero7 45)).block _ (blt HX3.out)).trans HX3.out) (((bal HB6.out (.cells zero7 45)).block _ (blt HP9.out.cblk)).trans HP9.out.cblk))) (fun hHeld => ?_)); try simp only [Lga, Lgz, Lgs, Act.put, Lsa, Lsz, Lss]
           refine wpAnyH_ready (rs := [11]) (by kernel_rfl) (by simp) ?_
           refine AllReadyH.cons rfl (fun K hK => ?_) AllReadyH.nil
           rw [if_pos (by kernel_rfl)]
           simp only [Lga, Lgz, Lgs]
           refine wp_store_blk 45 (.tmp 19) (.tmp 63) (by kernel_rfl) (by kernel_rfl) (g := w6.heap.size) (e := 45) (.agg (mqCells tm (.slice A1' n1' c1') (.slice A2' n2' c2'))) (mqCells tm (.slice A1' n1' c1') (.slice A2' n2' c2')).toList (by kernel_rfl) (by kernel_rfl) (by kernel_rfl) (HZ7.out w6) (by kernel_rfl) rfl (by simp [mqCells, Value.oneCell']) (fun W7 HW => ?_)
           have HB7 := Amk (HW.below (bal HB6.out (.cells zero7 45)) (bal HB6.out (.cells zero7 45)).size (by first | exact HB6.out.size | exact HB5.out.size | exact Nat.le_refl _))
           have HW7 := Amk HW
           clear HW
           (first | refine hK.out _ _ (And.intro ((HB7.out.block _ (blt HP9.out.sblk)).trans HP9.out.sblk) (And.intro ((HB7.out.block _ (blt HX3.out)).trans HX3.out) ((HB7.out.block _ (blt HP9.out.cblk)).trans HP9.out.cblk))) (fun hHeld => ?_) | refine hK _ _ (And.intro ((HB7.out.block _ (blt HP9.out.sblk)).trans HP9.out.sblk) (And.intro ((HB7.out.block _ (blt HX3.out)).trans HX3.out) ((HB7.out.block _ (blt HP9.out.cblk)).trans HP9.out.cblk))) (fun hHeld => ?_)); try simp only [Lga, Lgz, Lgs, Act.put, Lsa, Lsz, Lss]
           refine tkH 12 ?_ hHeld ?_ ?_; rotate_left; (focus intro w_ hSw; (try dsimp only at hSw); go_simp; (try simp only [hSw]); (try rfl)); rotate_left; try simp only [Lga, Lgz, Lgs, Act.put, Lsa, Lsz, Lss]
           refine wpAnyH_done (by kernel_rfl) ?_ _
           clear hK K
           go_wp2_with fail
           go_meet
           exact ⟨_, A1', n1', c1', A2', n2', c2', AK, nK, cK, rfl, rfl, HB7, ⟨HW7.out.blk⟩, ⟨R_wrote (Kd.R_below HR1.out (bal (Below.refl _ _) _)) HW7.out (HZ7.out w6) (by decide)⟩, ⟨R_wrote (Kd.R_below HR2.out (bal (Below.refl _ _) _)) HW7.out (HZ7.out w6) (by decide)⟩, ⟨R_wrote (Kd.R_below HR3.out (bal (Below.refl _ _) _)) HW7.out (HZ7.out w6) (by decide)⟩⟩
          ·
           go_simp
           (first | refine hK.out _ _ (And.intro (((bal HB5.out (.cells zero7 45)).block _ (blt HP9.out.sblk)).trans HP9.out.sblk) (And.intro (((bal HB5.out (.cells zero7 45)).block _ (blt HX3.out)).trans HX3.out) (((bal HB5.out (.cells zero7 45)).block _ (blt HP9.out.cblk)).trans HP9.out.cblk))) (fun hHeld => ?_) | refine hK _ _ (And.intro (((bal HB5.out (.cells zero7 45)).block _ (blt HP9.out.sblk)).trans HP9.out.sblk) (And.intro (((bal HB5.out (.cells zero7 45)).block _ (blt HX3.out)).trans HX3.out) (((bal HB5.out (.cells zero7 45)).block _ (blt HP9.out.cblk)).trans HP9.out.cblk))) (fun hHeld => ?_)); try simp only [Lga, Lgz, Lgs, Act.put, Lsa, Lsz, Lss]
           refine wpAnyH_ready (rs := [6]) (by kernel_rfl) (by simp) ?_
           refine AllReadyH.cons rfl (fun K hK => ?_) AllReadyH.nil
           go_simp
           go_wp2_with (go_at_call 30; refine Calls.mono (HTold.out _ (bal HB5.out (.cells zero7 45))) ?_; rintro e6 w6 ⟨v1, v2, v3, rfl, hr1, hr2, hr3, hb6⟩; have HB6 := Amk (bth (bal HB5.out (.cells zero7 45)) (bal HB5.out (.cells zero7 45)).size hb6); have HR1 := Amk (Kd.R_lower hr1 (bal HB5.out (.cells zero7 45)).size); have HR2 := Amk (Kd.R_lower hr2 (bal HB5.out (.cells zero7 45)).size); have HR3 := Amk (Kd.R_lower hr3 (bal HB5.out (.cells zero7 45)).size); have HB6' := Amk hb6; clear hr1 hr2 hr3 hb6; obtain ⟨A1', n1', c1', rfl, _⟩ := R_parts HR1.out; obtain ⟨A2', n2', c2', rfl, _⟩ := R_parts HR2.out; obtain ⟨AK, nK, cK, rfl, HNK⟩ := R_parts HR3.out)
           (first | refine hK.out _ _ (And.intro ((HB6.out.block _ (blt HP9.out.sblk)).trans HP9.out.sblk) (And.intro ((HB6.out.block _ (blt HX3.out)).trans HX3.out) ((HB6.out.block _ (blt HP9.out.cblk)).trans HP9.out.cblk))) (fun hHeld => ?_) | refine hK _ _ (And.intro ((HB6.out.block _ (blt HP9.out.sblk)).trans HP9.out.sblk) (And.intro ((HB6.out.block _ (blt HX3.out)).trans HX3.out) ((HB6.out.block _ (blt HP9.out.cblk)).trans HP9.out.cblk))) (fun hHeld => ?_)); try simp only [Lga, Lgz, Lgs, Act.put, Lsa, Lsz, Lss]
           refine tkH 7 ?_ hHeld ?_ ?_; rotate_left; (focus intro w_ hSw; (try dsimp only at hSw); go_simp; (try simp only [hSw]); (try rfl)); rotate_left; try simp only [Lga, Lgz, Lgs, Act.put, Lsa, Lsz, Lss]
           refine tkH 8 ?_ hHeld ?_ ?_; rotate_left; (focus intro w_ hSw; (try dsimp only at hSw); go_simp; (try simp only [hSw]); (try rfl)); rotate_left; try simp only [Lga, Lgz, Lgs, Act.put, Lsa, Lsz, Lss]
           refine tkH 9 ?_ hHeld ?_ ?_; rotate_left; (focus intro w_ hSw; (try dsimp only at hSw); go_simp; (try simp only [hSw]); (try rfl)); rotate_left; try simp only [Lga, Lgz, Lgs, Act.put, Lsa, Lsz, Lss]
           refine wpAnyH_ready (rs := [11]) (by kernel_rfl) (by simp) ?_
           refine AllReadyH.cons rfl (fun K hK => ?_) AllReadyH.nil
           rw [if_pos (by kernel_rfl)]
           simp only [Lga, Lgz, Lgs]
           refine wp_store_blk 45 (.tmp 19) (.tmp 63) (by kernel_rfl) (by kernel_rfl) (g := w5.heap.size) (e := 45) (.agg (mqCells tm (.slice A1' n1' c1') (.slice A2' n2' c2'))) (mqCells tm (.slice A1' n1' c1') (.slice A2' n2' c2')).toList (by kernel_rfl) (by kernel_rfl) (by kernel_rfl) ((HB6'.out.block _ (by simp)).trans (HZ7.out w5)) (by kernel_rfl) rfl (by simp [mqCells, Value.oneCell']) (fun W7 HW => ?_)
           have HB7 := Amk (HW.below HB6.out HB6.out.size (by first | exact HB6.out.size | exact HB5.out.size | exact Nat.le_refl _))
           have HW7 := Amk HW
           clear HW
           (first | refine hK.out _ _ (And.intro ((HB7.out.block _ (blt HP9.out.sblk)).trans HP9.out.sblk) (And.intro ((HB7.out.block _ (blt HX3.out)).trans HX3.out) ((HB7.out.block _ (blt HP9.out.cblk)).trans HP9.out.cblk))) (fun hHeld => ?_) | refine hK _ _ (And.intro ((HB7.out.block _ (blt HP9.out.sblk)).trans HP9.out.sblk) (And.intro ((HB7.out.block _ (blt HX3.out)).trans HX3.out) ((HB7.out.block _ (blt HP9.out.cblk)).trans HP9.out.cblk))) (fun hHeld => ?_)); try simp only [Lga, Lgz, Lgs, Act.put, Lsa, Lsz, Lss]
           refine tkH 12 ?_ hHeld ?_ ?_; rotate_left; (focus intro w_ hSw; (try dsimp only at hSw); go_simp; (try simp only [hSw]); (try rfl)); rotate_left; try simp only [Lga, Lgz, Lgs, Act.put, Lsa, Lsz, Lss]
           refine wpAnyH_done (by kernel_rfl) ?_ _
           clear hK K
           go_wp2_with fail
           go_meet
           exact ⟨_, A1', n1', c1', A2', n2', c2', AK, nK, cK, rfl, rfl, HB7, ⟨HW7.out.blk⟩, ⟨R_wrote HR1.out HW7.out ((HB6'.out.block _ (by simp)).trans (HZ7.out w5)) (by decide)⟩, ⟨R_wrote HR2.out HW7.out ((HB6'.out.block _ (by simp)).trans (HZ7.out w5)) (by decide)⟩, ⟨R_wrote HR3.out HW7.out ((HB6'.out.block _ (by simp)).trans (HZ7.out w5)) (by decide)⟩⟩
         ·
          go_simp
          (first | refine hK.out _ _ (And.intro (((bdr (bal (Below.refl W3.heap.size W3) (.cells zero7 45))).block _ (blt HP9.out.sblk)).trans HP9.out.sblk) (And.intro (((bdr (bal (Below.refl W3.heap.size W3) (.cells zero7 45))).block _ (blt HX3.out)).trans HX3.out) (((bdr (bal (Below.refl W3.heap.size W3) (.cells zero7 45))).block _ (blt HP9.out.cblk)).trans HP9.out.cblk))) (fun hHeld => ?_) | refine hK _ _ (And.intro (((bdr (bal (Below.refl W3.heap.size W3) (.cells zero7 45))).block _ (blt HP9.out.sblk)).trans HP9.out.sblk) (And.intro (((bdr (bal (Below.refl W3.heap.size W3) (.cells zero7 45))).block _ (blt HX3.out)).trans HX3.out) (((bdr (bal (Below.refl W3.heap.size W3) (.cells zero7 45))).block _ (blt HP9.out.cblk)).trans HP9.out.cblk))) (fun hHeld => ?_)); try simp only [Lga, Lgz, Lgs, Act.put, Lsa, Lsz, Lss]
          refine wpAnyH_ready (rs := [5]) (by kernel_rfl) (by simp) ?_
          refine AllReadyH.cons rfl (fun K hK => ?_) AllReadyH.nil
          go_simp
          go_wp2_with (go_at_call 29; refine Calls.mono (HAns.out _ (bdr (bal (Below.refl W3.heap.size W3) (.cells zero7 45)))) ?_; rintro e5 w5 ⟨rfl, hb5⟩; have HB5' := Amk hb5; have HB5 := Amk (bth (bdr (bal (Below.refl W3.heap.size W3) (.cells zero7 45))) (bdr (bal (Below.refl W3.heap.size W3) (.cells zero7 45))).size hb5); clear hb5)
          (first | refine hK.out _ _ (And.intro ((HB5.out.block _ (blt HP9.out.sblk)).trans HP9.out.sblk) (And.intro ((HB5.out.block _ (blt HX3.out)).trans HX3.out) ((HB5.out.block _ (blt HP9.out.cblk)).trans HP9.out.cblk))) (fun hHeld => ?_) | refine hK _ _ (And.intro ((HB5.out.block _ (blt HP9.out.sblk)).trans HP9.out.sblk) (And.intro ((HB5.out.block _ (blt HX3.out)).trans HX3.out) ((HB5.out.block _ (blt HP9.out.cblk)).trans HP9.out.cblk))) (fun hHeld => ?_)); try simp only [Lga, Lgz, Lgs, Act.put, Lsa, Lsz, Lss]
          have HZ9 := Amk ((HB5'.out.block W3.heap.size (by simp)).trans (HZ7.out W3))
          refine wpAnyH_ready (rs := [6]) (by kernel_rfl) (by simp) ?_
          refine AllReadyH.cons rfl (fun K hK => ?_) AllReadyH.nil
          go_simp
          go_wp2_with (go_at_call 30; refine Calls.mono (HTold.out _ HB5.out) ?_; rintro e6 w6 ⟨v1, v2, v3, rfl, hr1, hr2, hr3, hb6⟩; have HB6 := Amk (bth HB5.out HB5.out.size hb6); have HR1 := Amk (Kd.R_lower hr1 HB5.out.size); have HR2 := Amk (Kd.R_lower hr2 HB5.out.size); have HR3 := Amk (Kd.R_lower hr3 HB5.out.size); have HB6' := Amk hb6; clear hr1 hr2 hr3 hb6; obtain ⟨A1', n1', c1', rfl, _⟩ := R_parts HR1.out; obtain ⟨A2', n2', c2', rfl, _⟩ := R_parts HR2.out; obtain ⟨AK, nK, cK, rfl, HNK⟩ := R_parts HR3.out)
          (first | refine hK.out _ _ (And.intro ((HB6.out.block _ (blt HP9.out.sblk)).trans HP9.out.sblk) (And.intro ((HB6.out.block _ (blt HX3.out)).trans HX3.out) ((HB6.out.block _ (blt HP9.out.cblk)).trans HP9.out.cblk))) (fun hHeld => ?_) | refine hK _ _ (And.intro ((HB6.out.block _ (blt HP9.out.sblk)).trans HP9.out.sblk) (And.intro ((HB6.out.block _ (blt HX3.out)).trans HX3.out) ((HB6.out.block _ (blt HP9.out.cblk)).trans HP9.out.cblk))) (fun hHeld => ?_)); try simp only [Lga, Lgz, Lgs, Act.put, Lsa, Lsz, Lss]
          refine tkH 7 ?_ hHeld ?_ ?_; rotate_left; (focus intro w_ hSw; (try dsimp only at hSw); go_simp; (try simp only [hSw]); (try rfl)); rotate_left; try simp only [Lga, Lgz, Lgs, Act.put, Lsa, Lsz, Lss]
          refine tkH 8 ?_ hHeld ?_ ?_; rotate_left; (focus intro w_ hSw; (try dsimp only at hSw); go_simp; (try simp only [hSw]); (try rfl)); rotate_left; try simp only [Lga, Lgz, Lgs, Act.put, Lsa, Lsz, Lss]
          refine tkH 9 ?_ hHeld ?_ ?_; rotate_left; (focus intro w_ hSw; (try dsimp only at hSw); go_simp; (try simp only [hSw]); (try rfl)); rotate_left; try simp only [Lga, Lgz, Lgs, Act.put, Lsa, Lsz, Lss]
          refine wpAnyH_ready (rs := [11]) (by kernel_rfl) (by simp) ?_
          refine AllReadyH.cons rfl (fun K hK => ?_) AllReadyH.nil
          rw [if_pos (by kernel_rfl)]
          simp only [Lga, Lgz, Lgs]
          refine wp_store_blk 45 (.tmp 19) (.tmp 63) (by kernel_rfl) (by kernel_rfl) (g := W3.heap.size) (e := 45) (.agg (mqCells tm (.slice A1' n1' c1') (.slice A2' n2' c2'))) (mqCells tm (.slice A1' n1' c1') (.slice A2' n2' c2')).toList (by kernel_rfl) (by kernel_rfl) (by kernel_rfl) ((HB6'.out.block _ (blt HZ9.out)).trans HZ9.out) (by kernel_rfl) rfl (by simp [mqCells, Value.oneCell']) (fun W7 HW => ?_)
          have HB7 := Amk (HW.below HB6.out HB6.out.size (by first | exact HB6.out.size | exact HB5.out.size | exact Nat.le_refl _))
          have HW7 := Amk HW
          clear HW
          (first | refine hK.out _ _ (And.intro ((HB7.out.block _ (blt HP9.out.sblk)).trans HP9.out.sblk) (And.intro ((HB7.out.block _ (blt HX3.out)).trans HX3.out) ((HB7.out.block _ (blt HP9.out.cblk)).trans HP9.out.cblk))) (fun hHeld => ?_) | refine hK _ _ (And.intro ((HB7.out.block _ (blt HP9.out.sblk)).trans HP9.out.sblk) (And.intro ((HB7.out.block _ (blt HX3.out)).trans HX3.out) ((HB7.out.block _ (blt HP9.out.cblk)).trans HP9.out.cblk))) (fun hHeld => ?_)); try simp only [Lga, Lgz, Lgs, Act.put, Lsa, Lsz, Lss]
          refine tkH 12 ?_ hHeld ?_ ?_; rotate_left; (focus intro w_ hSw; (try dsimp only at hSw); go_simp; (try simp only [hSw]); (try rfl)); rotate_left; try simp only [Lga, Lgz, Lgs, Act.put, Lsa, Lsz, Lss]
          refine wpAnyH_done (by kernel_rfl) ?_ _
          clear hK K
          go_wp2_with fail
          go_meet
          exact ⟨_, A1', n1', c1', A2', n2', c2', AK, nK, cK, rfl, rfl, HB7, ⟨HW7.out.blk⟩, ⟨R_wrote HR1.out HW7.out ((HB6'.out.block _ (blt HZ9.out)).trans HZ9.out) (by decide)⟩, ⟨R_wrote HR2.out HW7.out ((HB6'.out.block _ (blt HZ9.out)).trans HZ9.out) (by decide)⟩, ⟨R_wrote HR3.out HW7.out ((HB6'.out.block _ (blt HZ9.out)).trans HZ9.out) (by decide)⟩⟩
        case rest =>
         obtain ⟨ab, A1', n1', c1', A2', n2', c2', AK, nK, cK, rfl, rfl, HB7, HAB, HRW, HRC, HRK⟩ := hcut
         have HP10 := Amk (HP9.out.below HB7.out)
         have HL10 := Amk (Kd.R_below HL9.out HB7.out)
         have HNK : Aside0 (nK = tk.length) := ⟨(Kd.R_reads' HRK.out).1⟩
         have HZ3 := Amk HP9.out.sz
         have hnb2 : n < 1048576 := by omega
         clear HP8 HL8 HP9 HL9 HX3 HB3 HTold HAns HS17 HTT hrange HB7
         go_wp2_with (first
          | ((with_reducible refine gate_dst (N := 67) rfl ?_); refine wpList_load_row rfl 45 (.tmp 19) rfl ab rfl 45 (mqCells tm (.slice A1' n1' c1') (.slice A2' n2' c2')) (0, 0) _ HAB.out Tryz.underlying45 rfl (by kernel_rfl) ?_)
          | ((with_reducible refine gate_store (t := 45) (p := 8) rfl ?_); refine wpList_store_blk 45 (.tmp 8) (.tmp 67) rfl rfl rfl (g := sb) (e := 45) (.agg (mqCells tm (.slice A1' n1' c1') (.slice A2' n2' c2'))) (mqCells tm (.slice A1' n1' c1') (.slice A2' n2' c2')).toList rfl rfl rfl HP10.out.sblk (by kernel_rfl) rfl (by simp [mqCells, Value.oneCell']) ?_; intro W4 hw; have HP11 := Amk (HP10.out.store (s' := tm) (vW' := .slice A1' n1' c1') (vC' := .slice A2' n2' c2') hw (Kd.R_lower HRW.out HZ3.out) (Kd.R_lower HRC.out HZ3.out)); have HL11 := Amk (R_wroteG HL10.out hw HP10.out.sblk (by decide)); have HK11 := Amk (R_wroteG (Kd.R_lower HRK.out HZ3.out) hw HP10.out.sblk (by decide)); clear hw)
          | ((with_reducible refine gate_builtin (b := .append) (xs := #[.tmp 68, .tmp 69]) rfl ?_); at_builtin; obtain ⟨AX, cX, hvx, hcx, hrx⟩ := acts_row HK11.out; injection hvx with hx1 hx2 hx3; rw [← hx1, ← hx2] at hrx; refine Kd.R_append_rows kAct (Rr := kAct.M W4 w.heap.size (fun _ => True)) (w0 := w) w.heap.size rfl (.tmp 68) (.tmp 69) 46 57 _ 72 rfl Tryz.underlying46 info57 rfl (by decide) (by decide) (.slice Al nl cl) all tk AK nK cK (fun _ => True) (fun k => True ∧ some k ≠ (Value.slice Al nl cl).ownBlock) rfl rfl HP11.out.row hrx (acts_apart HP11.out.row) (fun _ hk => hk) (fun _ _ => trivial) HP11.out.bel HP11.out.sz (by have := HLL.out; simp only [List.length_append] at this; have := HNK.out; omega) ?_; intro v5 w5 hR hB hG hat; have HP12 := Amk (HP11.out.grown hG hB hR); have HL12 := Amk (row_step HL11.out hG hat); clear hR hB hG hat hrx hx1 hx2 hx3 hcx; obtain ⟨A5', n5', c5', rfl, HN5'⟩ := R_parts HP12.out.row))
         go_roundg gC
         case rel => exact ⟨i + 1, n + 1, tm, _, _, _, _, _, _, by go_num, rfl, by go_num, by omega, HP12, HL12, HTT2⟩
         case measure => omega
       ·
        have hk1 : (kind == 2) = false := by simpa using hk
        have hk2 : decide (kind = 2) = false := decide_eq_false hk
        have HTT2 := Amk (HTT.out.skip (x := ⟨kind, bytes, ops, ref, text⟩) hk)
        clear hk
        go_wp2_with (first | ((with_reducible refine gate_dst (N := 51) rfl ?_); refine wpList_load_mid rfl 57 (.tmp 50) rfl bg (i * 5) rfl [.int .i64 kind, .string bytes, .slice AO nO cO, .int .i64 ref, .string text] _ hrange.out Tryz.underlying57 rfl (by kernel_rfl) ?_) | ((with_reducible refine gate_store (t := 57) (p := 18) rfl ?_); refine wpList_store_blk 57 (.tmp 18) (.tmp 51) rfl rfl rfl (g := wr.heap.size) (e := 57) (.agg #[.int .i64 kind, .string bytes, .slice AO nO cO, .int .i64 ref, .string text]) [.int .i64 kind, .string bytes, .slice AO nO cO, .int .i64 ref, .string text] rfl rfl rfl (heap_alloc_new wr _) (by kernel_rfl) rfl (by simp [Value.oneCell']) ?_; intro W3 hw; have HB3 := Amk (hw.below (bal (Below.refl wr.heap.size wr) _) (by simp) (Nat.le_refl _)); have HX3 := Amk hw.blk; clear hw; have HP9 := Amk (HP8.out.below HB3.out); have HL9 := Amk (Kd.R_below HL8.out HB3.out); have ck := (bqc HX3.out 0).trans (show _ = some (Value.int .i64 kind) from rfl)))
        go_roundg gC
        case rel => exact ⟨i + 1, n, s, vW, vC, Al, nl, cl, all, by go_num, rfl, rfl, by omega, HP9, HL9, HTT2⟩
        case measure => omega
def wkText : List UInt8 := [16, 14, 0, 4, 77, 81, 84, 84, 4, 2, 0, 0, 0, 2, 109, 101]
def wk0 : Mq := { newMq with rest := ⟨wkText.toArray⟩ }
def wk1 : Mq := { newMq with up := true, client := ⟨#[109, 101]⟩, clean := true }
def wkO : BOp := { zOp with kind := 2, queue := ⟨#[109, 45, 109, 101]⟩ }
def wkA : BAct := doAct 1 ⟨#[]⟩ [wkO]
def wkL : List BOp := [{ zOp with kind := 7, text := ⟨#[109, 101]⟩ }, { zOp with kind := 1, queue := ⟨#[109, 45, 109, 101]⟩, n := 64 }, { zOp with kind := 8, sub := 1, queue := ⟨#[109, 45, 109, 101]⟩, n := 32, auto := true }]
def wkB : BAct := doAct 2 ⟨#[]⟩ wkL
theorem wk_next : nextF wkText = .ok ⟨1, 0, 0, 2, [109, 101], [], 0, false, [], true, [], []⟩ 16 := by kernel_rfl
theorem wk_queue : queueL [109, 101] = ⟨#[109, 45, 109, 101]⟩ := by
 refine ba_ext ?_
 simp [queueL]
theorem wk_conn : connF { wk0 with rest := ⟨#[]⟩ } 0 2 [109, 101] [] [] false true [] = (false, wk1, [wkA, wkB]) := by
 unfold connF
 rw [if_pos (by kernel_rfl)]
 have hn : nameF [109, 101] true 0 = [109, 101] := by simp [nameF]
 simp only [willF, Bool.false_eq_true, if_false, hn, connActs, openOps, if_true, wk_queue, List.nil_append]
 rfl
theorem wk_nextM : nextM wk0 0 = (wk1, [wkA, wkB], true) := by
 have hr : wk0.rest.data.toList = wkText := rfl
 unfold nextM
 rw [if_neg (by simp [wk0, newMq]), hr, wk_next]
 simp only
 have e : ({ wk0 with rest := ⟨(wkText.drop 16).toArray⟩ } : Mq) = { wk0 with rest := ⟨#[]⟩ } := rfl
 rw [e]
 have hh : hearF { wk0 with rest := ⟨#[]⟩ } 0 ⟨1, 0, 0, 2, [109, 101], [], 0, false, [], true, [], []⟩ = (false, wk1, [wkA, wkB]) := by
  unfold hearF
  rw [if_pos rfl]
  exact wk_conn
 unfold heardF
 rw [hh]
 rfl
theorem wk_told : toldM wk1 2 ⟨#[]⟩ 0 0 = (wk1, [sayAct [32, 2, 0, 0]]) := by
 unfold toldM
 rw [if_neg (by simp [wk1, newMq]), if_neg (by simp), if_pos rfl]
 simp [enc, lenEnc]
theorem wk_cells {W : World} {base : Nat} {v : Value} (h : kAct.R 57 W base (fun _ => True) v [wkA, wkB]) : ∃ bg cap bo co AB nB cB, v = .slice (some ⟨bg, 0, none⟩) 2 cap ∧ W.cell? ⟨bg, 2, none⟩ = some (.slice (some ⟨bo, 0, none⟩) 1 co) ∧ W.cell? ⟨bo, 0, none⟩ = some (.int .i64 2) ∧ W.cell? ⟨bo, 4, none⟩ = some (.string ⟨#[109, 45, 109, 101]⟩) ∧ W.cell? ⟨bg, 7, none⟩ = some (.slice AB 3 cB) ∧ nB = 3 ∧ W.rangeAt bg 5 [.int .i64 2, .string ⟨#[]⟩, .slice AB 3 cB, .int .i64 2, .string ⟨#[]⟩] := by
 obtain ⟨bg, cap, rfl, _, _, _⟩ := Kd.R_form h (by simp)
 obtain ⟨cs, _, hM, hcc, _⟩ := Kd.R_elem h endAct 0 (by omega) (by simp)
 obtain ⟨ds, _, hM2, hdc, _⟩ := Kd.R_elem h endAct 1 (by omega) (by simp)
 obtain ⟨v2, rfl, g2⟩ := kAct_openM (show kAct.M W base _ wkA cs from hM)
 obtain ⟨v3, rfl, g3⟩ := kAct_openM (show kAct.M W base _ wkB ds from hM2)
 obtain ⟨bo, co, rfl, _, _, _⟩ := Kd.R_form g2 (by simp [wkA, doAct])
 obtain ⟨os, _, hMo, hoc, _⟩ := Kd.R_elem g2 zOp 0 (by omega) (by simp [wkA, doAct])
 obtain ⟨Ap, cp, rfl⟩ := (show kOp.M W base _ wkO os from hMo)
 obtain ⟨AB, cB, rfl⟩ := Kd.R_slice g3
 exact ⟨bg, cap, bo, co, AB, 3, cB, rfl, hcc 2 _ rfl, hoc 0 _ rfl, hoc 4 _ rfl, hdc 2 _ rfl, rfl, fun q u hu => hdc q u hu⟩
theorem wk_said {W : World} {base : Nat} {v : Value} (h : kAct.R 57 W base (fun _ => True) v [sayAct [32, 2, 0, 0]]) : ∃ bk ck, v = .slice (some ⟨bk, 0, none⟩) 1 ck ∧ W.cell? ⟨bk, 1, none⟩ = some (.string ⟨#[32, 2, 0, 0]⟩) := by
 obtain ⟨bk, ck, rfl, _, _, _⟩ := Kd.R_form h (by simp)
 obtain ⟨cs, _, hM, hcc, _⟩ := Kd.R_elem h endAct 0 (by omega) (by simp)
 obtain ⟨v2, rfl, g2⟩ := kAct_openM (show kAct.M W base _ (sayAct [32, 2, 0, 0]) cs from hM)
 exact ⟨bk, ck, rfl, hcc 1 _ rfl⟩
theorem wakes_calls (w : World) (hG : WI w) : Calls Tryz.prog 21 #[] w fun e w' => e = .returned (.bool true) ∧ Below w.heap.size w w' := by
 have HG := Amk hG
 have HNW := Amk new_calls
 have hg0 : Good wk0 := ⟨⟨by simp [wk0, newMq], by simp [wk0, newMq], by simp [wk0, newMq], by simp [wk0, newMq, ByteArray.size]⟩, fun _ => rfl⟩
 have HNX : Aside0 (∀ W, WI W → Calls Tryz.prog 27 #[.agg (mqCells wk0 (.slice none 0 0) (.slice none 0 0)), .int .i64 0] W (NQ W (wk1, [wkA, wkB], true))) := ⟨fun W hW => wk_nextM ▸ mqnext_calls wk0 none 0 none 0 0 W ⟨⟨rfl, by simp [wk0, newMq], fun h => absurd h (by simp [wk0, newMq])⟩, Nat.le_refl _, ⟨rfl, by simp [wk0, newMq], fun h => absurd h (by simp [wk0, newMq])⟩, Nat.le_refl _, by simp [wk0, newMq], by simp [wk0, newMq]⟩ hW hg0 (by decide) (by decide)⟩
 have hm1 : MqOk wk1 := ⟨by simp [wk1, newMq], by simp [wk1, newMq], by simp [wk1, newMq], by simp [wk1, ByteArray.size]⟩
 clear hG hg0
 go_enter Tryz.func21, Tryz.ntmps21
 go_upto_region 4 with (first
  | (go_at_call 26; refine Calls.mono (HNW.out _) ?_; rintro e w1 ⟨rfl, hb⟩; have HB1 := Amk hb; clear hb)
  | ((with_reducible refine gate_store (t := 45) (p := 1) rfl ?_); refine wpList_store_blk 45 (.tmp 1) (.tmp 6) rfl rfl rfl (g := w1.heap.size) (e := 45) (.agg zero7) zero7.toList rfl rfl rfl (heap_alloc_new w1 _) (by kernel_rfl) rfl (by simp [zero7, Value.oneCell']) ?_; intro W1 hw; have HBZ := Amk (hw.below (bal HB1.out _) (Nat.le_trans HB1.out.size (by simp)) HB1.out.size); have zz := blk_frozen hw.blk 0; have cz := (bqc hw.blk 0).trans (show _ = some (Value.string ⟨#[]⟩) from rfl); have HB2 := Amk (below_set HBZ.out HB1.out.size (j := 0) (v := .string ⟨#[16, 14, 0, 4, 77, 81, 84, 84, 4, 2, 0, 0, 0, 2, 109, 101]⟩)); have HS2 : Aside0 ((W1.setCell ⟨w1.heap.size, 0, none⟩ (.string ⟨#[16, 14, 0, 4, 77, 81, 84, 84, 4, 2, 0, 0, 0, 2, 109, 101]⟩)).heap[w1.heap.size]? = some (.cells (mqCells wk0 (.slice none 0 0) (.slice none 0 0)) 45 (0, 0))) := ⟨blk_set hw.blk 0 _⟩; clear hw)
  | ((with_reducible refine gate_dst (N := 9) rfl ?_); refine wpList_load_row rfl 45 (.tmp 1) rfl w1.heap.size rfl 45 (mqCells wk0 (.slice none 0 0) (.slice none 0 0)) (0, 0) _ HS2.out Tryz.underlying45 rfl (by kernel_rfl) ?_)
  | (go_at_call 27; refine Calls.mono (HNX.out _ (HG.out.below HB2.out)) ?_; rintro e w2 ⟨v1, v2, v3, rfl, hr1, hr2, hr3, hb⟩; have HB3 := Amk (bth HB2.out HB2.out.size hb); have HS3 := Amk ((hb.block _ (blt HS2.out)).trans HS2.out); have HR1 := Amk hr1; have HR2 := Amk hr2; have HR3 := Amk hr3; clear hr1 hr2 hr3 hb; obtain ⟨A1, n1, c1, rfl, HN1⟩ := R_parts HR1.out; obtain ⟨A2, n2, c2, rfl, HN2⟩ := R_parts HR2.out)
  | ((with_reducible refine gate_store (t := 45) (p := 1) rfl ?_); refine wpList_store_blk 45 (.tmp 1) (.tmp 11) rfl rfl rfl (g := w1.heap.size) (e := 45) (.agg (mqCells wk1 (.slice A1 n1 c1) (.slice A2 n2 c2))) (mqCells wk1 (.slice A1 n1 c1) (.slice A2 n2 c2)).toList rfl rfl rfl HS3.out (by kernel_rfl) rfl (by simp [mqCells, Value.oneCell']) ?_; intro W4 hw; have HB4 := Amk (hw.below HB3.out HB3.out.size HB1.out.size); have HS4 := Amk hw.blk; have HW4 := Amk (And.intro (R_wrote HR1.out hw HS3.out (by decide)) (R_wrote HR2.out hw HS3.out (by decide))); have HR4 := Amk (R_wrote HR3.out hw HS3.out (by decide)); clear hw; obtain ⟨bg, cap, bo, co, AB, nB, cB, rfl, q1, q2, q3, q4, hnB, hrg⟩ := wk_cells HR4.out; have HRG := Amk hrg; clear hrg))
 go_upto_region 6 with (fail)
 have HIN := Amk (And.intro (Kd.R_reads' HW4.out.1) (Kd.R_reads' HW4.out.2))
 have HTold : Aside0 (∀ W, Below W4.heap.size W4 W → Calls Tryz.prog 30 #[.agg (mqCells wk1 (.slice A1 n1 c1) (.slice A2 n2 c2)), .int .i64 0, .agg #[.int .i64 2, .string ⟨#[]⟩, .slice AB 3 cB, .int .i64 2, .string ⟨#[]⟩], .int .i64 0] W (TQ W (wk1, [sayAct [32, 2, 0, 0]]))) := ⟨fun W hB => by
  obtain ⟨⟨e1, k1, r1⟩, ⟨e2, k2, r2⟩⟩ := HIN.out
  have h := told_calls wk1 A1 c1 A2 c2 0 2 2 0 ⟨#[]⟩ ⟨#[]⟩ AB 3 cB 0 W ⟨Kd.C_below r1 hB, by rw [← e1]; exact k1, Kd.C_below r2 hB, by rw [← e2]; exact k2, by simp [wk1, newMq], by simp [wk1, newMq]⟩ ((HG.out.below HB4.out).below hB) hm1 (fun _ h => absurd h (by decide)) (.inr ⟨rfl, rfl, by decide, by decide, by decide⟩)
  rw [wk_told] at h
  rw [e1, e2]
  exact h⟩
 have HS6 : Aside0 ((fun W => W.heap[w1.heap.size]? = some (.cells (mqCells wk1 (.slice A1 n1 c1) (.slice A2 n2 c2)) 45 (0, 0)) ∧ W.rangeAt bg 5 [.int .i64 2, .string ⟨#[]⟩, .slice AB 3 cB, .int .i64 2, .string ⟨#[]⟩]) W4.drew) := ⟨⟨HS4.out, HRG.out⟩⟩
 have HBD := Amk (bdr (Below.refl W4.heap.size W4))
 have HZ7 : Aside0 (∀ W : World, (W.alloc (.cells zero7 45)).heap[W.heap.size]? = some (.cells zero7 45 (0, 0))) := ⟨fun W => heap_alloc_new W _⟩
 have HK : Aside0 (∀ W, Below W4.heap.size W4 W → (fun W => W.heap[w1.heap.size]? = some (.cells (mqCells wk1 (.slice A1 n1 c1) (.slice A2 n2 c2)) 45 (0, 0)) ∧ W.rangeAt bg 5 [.int .i64 2, .string ⟨#[]⟩, .slice AB 3 cB, .int .i64 2, .string ⟨#[]⟩]) W) := ⟨fun W hB => ⟨(hB.block _ (blt HS4.out)).trans HS4.out, fun q u hu => (hB.cell (World.block_lt_of_cell? _ _ (HRG.out q u hu))).trans (HRG.out q u hu)⟩⟩
 go_cut [5] (fun s5 wx => ∃ bk ck, s5 = .slice (some ⟨bk, 0, none⟩) 1 ck ∧ Aside0 (wx.cell? ⟨bk, 1, none⟩ = some (.string ⟨#[32, 2, 0, 0]⟩)) ∧ Aside0 (Below w.heap.size w wx))
 case first =>
  refine wp_region_held_drew (S := (fun W => W.heap[w1.heap.size]? = some (.cells (mqCells wk1 (.slice A1 n1 c1) (.slice A2 n2 c2)) 45 (0, 0)) ∧ W.rangeAt bg 5 [.int .i64 2, .string ⟨#[]⟩, .slice AB 3 cB, .int .i64 2, .string ⟨#[]⟩])) (by kernel_rfl) HS6.out (fun hHeld => ?_)
  refine tkH 0 (.agg (mqCells wk1 (.slice A1 n1 c1) (.slice A2 n2 c2))) hHeld ?_ ?_; (focus intro w_ hSw; exact exec_load_row 45 (.tmp 1) rfl w1.heap.size rfl 45 _ (0, 0) _ hSw.1 Tryz.underlying45 rfl (by kernel_rfl)); try simp only [Lga, Lgz, Lgs, Act.put, Lsa, Lsz, Lss]
  refine tkH 1 ?_ hHeld ?_ ?_; rotate_left; (focus intro w_ hSw; (try dsimp only at hSw); go_simp; (try simp only [hSw]); (try rfl)); rotate_left; try simp only [Lga, Lgz, Lgs, Act.put, Lsa, Lsz, Lss]
  refine tkH 2 ?_ hHeld ?_ ?_; rotate_left; (focus intro w_ hSw; (try dsimp only at hSw); go_simp; (try simp only [hSw]); (try rfl)); rotate_left; try simp only [Lga, Lgz, Lgs, Act.put, Lsa, Lsz, Lss]
  refine wpAnyH_take (i := 3) (v := .agg #[.int .i64 2, .string ⟨#[]⟩, .slice AB 3 cB, .int .i64 2, .string ⟨#[]⟩]) rfl (by kernel_rfl) (by kernel_rfl) (by kernel_rfl) (fun _ _ _ h => h) (yieldsIf_load_mid (by kernel_rfl) 57 (.tmp 60) rfl bg 5 (by kernel_rfl) [.int .i64 2, .string ⟨#[]⟩, .slice AB 3 cB, .int .i64 2, .string ⟨#[]⟩] _ (fun _ h => h.2) Tryz.underlying57 rfl (by kernel_rfl)) hHeld ?_
  try simp only [Lga, Lgz, Lgs, Act.put, Lsa, Lsz, Lss]
  refine wpAnyH_ready (rs := [4, 8]) (by kernel_rfl) (by simp) ?_
  refine AllReadyH.cons rfl (fun K hK => ?_) (AllReadyH.cons rfl (fun K hK => ?_) AllReadyH.nil)
  ·
   go_simp
   go_wp2_with (go_at_call 30; refine Calls.mono (HTold.out _ HBD.out) ?_; rintro e6 w6 ⟨v1, v2, v3, rfl, hr1, hr2, hr3, hb6⟩; have HB6 := Amk (bth HBD.out HBD.out.size hb6); have HR1 := Amk hr1; have HR2 := Amk hr2; have HR3 := Amk hr3; have HB6' := Amk hb6; clear hr1 hr2 hr3 hb6; obtain ⟨A1', n1', c1', rfl, _⟩ := R_parts HR1.out; obtain ⟨A2', n2', c2', rfl, _⟩ := R_parts HR2.out; obtain ⟨AK, nK, cK, rfl, HNK⟩ := R_parts HR3.out)
   (first | refine hK.out _ _ (HK.out _ HB6.out) (fun hHeld => ?_) | refine hK _ _ (HK.out _ HB6.out) (fun hHeld => ?_)); try simp only [Lga, Lgz, Lgs, Act.put, Lsa, Lsz, Lss]
   refine tkH 5 ?_ hHeld ?_ ?_; rotate_left; (focus intro w_ hSw; (try dsimp only at hSw); go_simp; (try simp only [hSw]); (try rfl)); rotate_left; try simp only [Lga, Lgz, Lgs, Act.put, Lsa, Lsz, Lss]
   refine tkH 6 ?_ hHeld ?_ ?_; rotate_left; (focus intro w_ hSw; (try dsimp only at hSw); go_simp; (try simp only [hSw]); (try rfl)); rotate_left; try simp only [Lga, Lgz, Lgs, Act.put, Lsa, Lsz, Lss]
   refine tkH 7 ?_ hHeld ?_ ?_; rotate_left; (focus intro w_ hSw; (try dsimp only at hSw); go_simp; (try simp only [hSw]); (try rfl)); rotate_left; try simp only [Lga, Lgz, Lgs, Act.put, Lsa, Lsz, Lss]
   refine wpAnyH_ready (rs := [8]) (by kernel_rfl) (by simp) ?_
   refine AllReadyH.cons rfl (fun K hK => ?_) AllReadyH.nil
   go_simp
   (first | refine hK.out _ _ (HK.out _ (bal HB6.out (.cells zero7 45))) (fun hHeld => ?_) | refine hK _ _ (HK.out _ (bal HB6.out (.cells zero7 45))) (fun hHeld => ?_)); try simp only [Lga, Lgz, Lgs, Act.put, Lsa, Lsz, Lss]
   refine wpAnyH_ready (rs := [9]) (by kernel_rfl) (by simp) ?_
   refine AllReadyH.cons rfl (fun K hK => ?_) AllReadyH.nil
   rw [if_pos (by kernel_rfl)]
   simp only [Lga, Lgz, Lgs]
   refine wp_store_blk 45 (.tmp 4) (.tmp 63) (by kernel_rfl) (by kernel_rfl) (g := w6.heap.size) (e := 45) (.agg (mqCells wk1 (.slice A1' n1' c1') (.slice A2' n2' c2'))) (mqCells wk1 (.slice A1' n1' c1') (.slice A2' n2' c2')).toList (by kernel_rfl) (by kernel_rfl) (by kernel_rfl) (HZ7.out w6) (by kernel_rfl) rfl (by simp [mqCells, Value.oneCell']) (fun W7 HW => ?_)
   have HB7 := Amk (HW.below (bal HB6.out (.cells zero7 45)) (bal HB6.out (.cells zero7 45)).size (by first | exact HB6.out.size | exact Nat.le_refl _))
   have HRK := Amk (R_wrote (Kd.R_below HR3.out (bal (Below.refl _ _) _)) HW (HZ7.out w6) (by decide))
   clear HW
   (first | refine hK.out _ _ (HK.out _ HB7.out) (fun hHeld => ?_) | refine hK _ _ (HK.out _ HB7.out) (fun hHeld => ?_)); try simp only [Lga, Lgz, Lgs, Act.put, Lsa, Lsz, Lss]
   refine tkH 10 ?_ hHeld ?_ ?_; rotate_left; (focus intro w_ hSw; (try dsimp only at hSw); go_simp; (try simp only [hSw]); (try rfl)); rotate_left; try simp only [Lga, Lgz, Lgs, Act.put, Lsa, Lsz, Lss]
   refine wpAnyH_done (by kernel_rfl) ?_ _
   clear hK K
   obtain ⟨bk, ck, hvk, hck⟩ := wk_said HRK.out
   injection hvk with hv1 hv2 hv3
   subst hv1 hv2 hv3
   have HCK := Amk hck
   clear hck
   go_wp2_with fail
   go_meet
   exact ⟨bk, _, rfl, HCK, ⟨bth HB4.out HB4.out.size HB7.out⟩⟩
  ·
   go_simp
   (first | refine hK.out _ _ (HK.out _ (bdr (bal (Below.refl W4.heap.size W4) (.cells zero7 45)))) (fun hHeld => ?_) | refine hK _ _ (HK.out _ (bdr (bal (Below.refl W4.heap.size W4) (.cells zero7 45)))) (fun hHeld => ?_)); try simp only [Lga, Lgz, Lgs, Act.put, Lsa, Lsz, Lss]
   refine wpAnyH_ready (rs := [4]) (by kernel_rfl) (by simp) ?_
   refine AllReadyH.cons rfl (fun K hK => ?_) AllReadyH.nil
   go_simp
   go_wp2_with (go_at_call 30; refine Calls.mono (HTold.out _ (bdr (bal (Below.refl W4.heap.size W4) (.cells zero7 45)))) ?_; rintro e6 w6 ⟨v1, v2, v3, rfl, hr1, hr2, hr3, hb6⟩; have HB6 := Amk (bth (bdr (bal (Below.refl W4.heap.size W4) (.cells zero7 45))) (bdr (bal (Below.refl W4.heap.size W4) (.cells zero7 45))).size hb6); have HR1 := Amk hr1; have HR2 := Amk hr2; have HR3 := Amk hr3; have HB6' := Amk hb6; clear hr1 hr2 hr3 hb6; obtain ⟨A1', n1', c1', rfl, _⟩ := R_parts HR1.out; obtain ⟨A2', n2', c2', rfl, _⟩ := R_parts HR2.out; obtain ⟨AK, nK, cK, rfl, HNK⟩ := R_parts HR3.out)
   (first | refine hK.out _ _ (HK.out _ HB6.out) (fun hHeld => ?_) | refine hK _ _ (HK.out _ HB6.out) (fun hHeld => ?_)); try simp only [Lga, Lgz, Lgs, Act.put, Lsa, Lsz, Lss]
   refine tkH 5 ?_ hHeld ?_ ?_; rotate_left; (focus intro w_ hSw; (try dsimp only at hSw); go_simp; (try simp only [hSw]); (try rfl)); rotate_left; try simp only [Lga, Lgz, Lgs, Act.put, Lsa, Lsz, Lss]
   refine tkH 6 ?_ hHeld ?_ ?_; rotate_left; (focus intro w_ hSw; (try dsimp only at hSw); go_simp; (try simp only [hSw]); (try rfl)); rotate_left; try simp only [Lga, Lgz, Lgs, Act.put, Lsa, Lsz, Lss]
   refine tkH 7 ?_ hHeld ?_ ?_; rotate_left; (focus intro w_ hSw; (try dsimp only at hSw); go_simp; (try simp only [hSw]); (try rfl)); rotate_left; try simp only [Lga, Lgz, Lgs, Act.put, Lsa, Lsz, Lss]
   refine wpAnyH_ready (rs := [9]) (by kernel_rfl) (by simp) ?_
   refine AllReadyH.cons rfl (fun K hK => ?_) AllReadyH.nil
   rw [if_pos (by kernel_rfl)]
   simp only [Lga, Lgz, Lgs]
   refine wp_store_blk 45 (.tmp 4) (.tmp 63) (by kernel_rfl) (by kernel_rfl) (g := W4.heap.size) (e := 45) (.agg (mqCells wk1 (.slice A1' n1' c1') (.slice A2' n2' c2'))) (mqCells wk1 (.slice A1' n1' c1') (.slice A2' n2' c2')).toList (by kernel_rfl) (by kernel_rfl) (by kernel_rfl) ((HB6'.out.block W4.heap.size (by simp)).trans (HZ7.out W4)) (by kernel_rfl) rfl (by simp [mqCells, Value.oneCell']) (fun W7 HW => ?_)
   have HB7 := Amk (HW.below HB6.out HB6.out.size (by first | exact HB6.out.size | exact Nat.le_refl _))
   have HRK := Amk (R_wrote HR3.out HW ((HB6'.out.block W4.heap.size (by simp)).trans (HZ7.out W4)) (by decide))
   clear HW
   (first | refine hK.out _ _ (HK.out _ HB7.out) (fun hHeld => ?_) | refine hK _ _ (HK.out _ HB7.out) (fun hHeld => ?_)); try simp only [Lga, Lgz, Lgs, Act.put, Lsa, Lsz, Lss]
   refine tkH 10 ?_ hHeld ?_ ?_; rotate_left; (focus intro w_ hSw; (try dsimp only at hSw); go_simp; (try simp only [hSw]); (try rfl)); rotate_left; try simp only [Lga, Lgz, Lgs, Act.put, Lsa, Lsz, Lss]
   refine wpAnyH_done (by kernel_rfl) ?_ _
   clear hK K
   obtain ⟨bk, ck, hvk, hck⟩ := wk_said HRK.out
   injection hvk with hv1 hv2 hv3
   subst hv1 hv2 hv3
   have HCK := Amk hck
   clear hck
   go_wp2_with fail
   go_meet
   exact ⟨bk, _, rfl, HCK, ⟨bth HB4.out HB4.out.size HB7.out⟩⟩
 case rest =>
  obtain ⟨bk, ck, rfl, hcb, HBW⟩ := hcut
  have hcb1 := hcb.out
  clear hcb HNX HG
  go_wp2_with fail
  go_ret
  exact ⟨rfl, HBW.out⟩
def SomeB (w : World) (e : Ending) (w' : World) : Prop := ∃ b, e = .returned (.bool b) ∧ w' = w
def SomeBB (w : World) (e : Ending) (w' : World) : Prop := ∃ b, e = .returned (.bool b) ∧ Below w.heap.size w w'
theorem bits_calls (b : Nat) (w : World) : Calls Tryz.prog 196 #[.float .f64 b] w fun e w' => e = .returned (.int .u64 b) ∧ w' = w := by
 have hb : ∀ (b : Nat) (w : World), (callFunc 259 #[.float .f64 b]).run Tryz.prog w = .ok (.value (.int .u64 b)) w := fun b w => by kernel_rfl
 go_enter Tryz.func196, Tryz.ntmps196
 go_wp2_with fail
 go_ret
 exact ⟨rfl, rfl⟩
theorem samef_calls (a b : Nat) (w : World) : Calls Tryz.prog 260 #[.float .f64 a, .float .f64 b] w (SomeB w) := by
 have hb : ∀ (b : Nat) (w : World), (callFunc 259 #[.float .f64 b]).run Tryz.prog w = .ok (.value (.int .u64 b)) w := fun b w => by kernel_rfl
 go_enter Tryz.func260, Tryz.ntmps260
 go_wp2_with fail
 go_ret
 exact ⟨_, rfl, rfl⟩
theorem nan_calls (b : Nat) (w : World) : Calls Tryz.prog 262 #[.float .f64 b] w (SomeB w) := by
 go_enter Tryz.func262, Tryz.ntmps262
 go_wp2_with (go_at_call 196; refine Calls.mono (bits_calls _ _) ?_; rintro e1 w1 ⟨rfl, rfl⟩)
 all_goals go_ret
 all_goals exact ⟨_, rfl, rfl⟩
theorem from_calls (w : World) : Calls Tryz.prog 291 #[.int .u64 9221120237041090561] w fun e w' => (∃ b : Nat, e = .returned (.float .f64 b)) ∧ w' = w := by
 have hb : ∀ (b : Int) (w : World), (callFunc 268 #[.int .u64 b]).run Tryz.prog w = .ok (.value (.float .f64 b.toNat)) w := fun b w => by kernel_rfl
 go_enter Tryz.func291, Tryz.ntmps291
 go_wp2_with fail
 go_ret
 exact ⟨⟨_, rfl⟩, rfl⟩
def SomeF (w : World) (e : Ending) (w' : World) : Prop := ∃ b : Nat, e = .returned (.float .f64 b) ∧ w' = w
theorem canon_calls (b : Nat) (w : World) : Calls Tryz.prog 261 #[.float .f64 b] w (SomeF w) := by
 go_enter Tryz.func261, Tryz.ntmps261
 go_wp2_with (first | (go_at_call 262; refine Calls.mono (nan_calls _ _) ?_; rintro e1 w1 ⟨bn, rfl, rfl⟩; cases bn) | (go_at_call 291; refine Calls.mono (from_calls _) ?_; rintro e1 w1 ⟨⟨bf, rfl⟩, rfl⟩))
 all_goals go_ret
 all_goals exact ⟨_, rfl, rfl⟩
theorem refg_calls (kind num : Int) (text : ByteArray) (real : Nat) (w : World) : Calls Tryz.prog 194 #[.agg #[.int .i64 kind, .int .i64 num, .string text, .float .f64 real]] w (SomeBB w) := by
 obtain ⟨⟨tl⟩⟩ := text
 have HBX := Amk (heap_alloc_new w (.cells #[.int .i64 kind, .int .i64 num, .string ⟨⟨tl⟩⟩, .float .f64 real] 179))
 have HS0 : Aside0 ((fun W => W.cell? ⟨w.heap.size, 0, none⟩ = some (.int .i64 kind) ∧ W.cell? ⟨w.heap.size, 1, none⟩ = some (.int .i64 num) ∧ W.cell? ⟨w.heap.size, 2, none⟩ = some (.string ⟨⟨tl⟩⟩) ∧ W.cell? ⟨w.heap.size, 3, none⟩ = some (.float .f64 real)) (w.alloc (.cells #[.int .i64 kind, .int .i64 num, .string ⟨⟨tl⟩⟩, .float .f64 real] 179)).drew) := ⟨⟨(bqc HBX.out 0).trans rfl, (bqc HBX.out 1).trans rfl, (bqc HBX.out 2).trans rfl, (bqc HBX.out 3).trans rfl⟩⟩
 go_enter Tryz.func194, Tryz.ntmps194
 go_wp2_with (first | (go_at_call 196; refine Calls.mono (bits_calls _ _) ?_; rintro e1 w1 ⟨rfl, rfl⟩))
 all_goals first
  | (go_ret; exact ⟨_, rfl, bal (Below.refl _ _) _⟩)
  | skip
 have hHeld0 := HS0.out
 refine wp_region_held_drew (S := (fun W => W.cell? ⟨w.heap.size, 0, none⟩ = some (.int .i64 kind) ∧ W.cell? ⟨w.heap.size, 1, none⟩ = some (.int .i64 num) ∧ W.cell? ⟨w.heap.size, 2, none⟩ = some (.string ⟨⟨tl⟩⟩) ∧ W.cell? ⟨w.heap.size, 3, none⟩ = some (.float .f64 real))) (by kernel_rfl) HS0.out (fun hHeld => ?_)
 by_cases h4 : kind = 4
 ·
  by_cases hn : num = 0
  ·
   by_cases ht : tl = []
   ·
    have h4b : (kind == 4) = true := by simpa using h4
    have hnb : (num == 0) = true := by simpa using hn
    have htb : tl.isEmpty = true := by simpa using ht
    clear h4 hn ht
    refine tkH 0 ?_ hHeld ?_ ?_; rotate_left; (focus intro w_ hSw; (try dsimp only at hSw); go_simp; (try simp only [hSw]); (try rfl)); rotate_left; try simp only [Lga, Lgz, Lgs, Act.put, Lsa, Lsz, Lss]
    refine tkH 1 ?_ hHeld ?_ ?_; rotate_left; (focus intro w_ hSw; (try dsimp only at hSw); go_simp; (try simp only [hSw]); (try rfl)); rotate_left; try simp only [Lga, Lgz, Lgs, Act.put, Lsa, Lsz, Lss]
    refine tkH 2 (.bool true) hHeld ?_ ?_; (focus intro w_ hSw; (try dsimp only at hSw); go_simp; (try simp only [hSw]); (try simp [h4b])); try simp only [Lga, Lgz, Lgs, Act.put, Lsa, Lsz, Lss]
    refine tkH 3 ?_ hHeld ?_ ?_; rotate_left; (focus intro w_ hSw; (try dsimp only at hSw); go_simp; (try simp only [hSw]); (try rfl)); rotate_left; try simp only [Lga, Lgz, Lgs, Act.put, Lsa, Lsz, Lss]
    refine tkH 4 ?_ hHeld ?_ ?_; rotate_left; (focus intro w_ hSw; (try dsimp only at hSw); go_simp; (try simp only [hSw]); (try rfl)); rotate_left; try simp only [Lga, Lgz, Lgs, Act.put, Lsa, Lsz, Lss]
    refine tkH 5 ?_ hHeld ?_ ?_; rotate_left; (focus intro w_ hSw; (try dsimp only at hSw); go_simp; (try simp only [hSw]); (try rfl)); rotate_left; try simp only [Lga, Lgz, Lgs, Act.put, Lsa, Lsz, Lss]
    refine tkH 6 (.bool true) hHeld ?_ ?_; (focus intro w_ hSw; (try dsimp only at hSw); go_simp; (try simp only [hSw]); (try simp [hnb])); try simp only [Lga, Lgz, Lgs, Act.put, Lsa, Lsz, Lss]
    refine tkH 7 (.bool true) hHeld ?_ ?_; (focus intro w_ hSw; (try dsimp only at hSw); go_simp; (try simp only [hSw]); (try simp [hnb])); try simp only [Lga, Lgz, Lgs, Act.put, Lsa, Lsz, Lss]
    refine tkH 8 ?_ hHeld ?_ ?_; rotate_left; (focus intro w_ hSw; (try dsimp only at hSw); go_simp; (try simp only [hSw]); (try rfl)); rotate_left; try simp only [Lga, Lgz, Lgs, Act.put, Lsa, Lsz, Lss]
    refine tkH 9 ?_ hHeld ?_ ?_; rotate_left; (focus intro w_ hSw; (try dsimp only at hSw); go_simp; (try simp only [hSw]); (try rfl)); rotate_left; try simp only [Lga, Lgz, Lgs, Act.put, Lsa, Lsz, Lss]
    refine tkH 10 ?_ hHeld ?_ ?_; rotate_left; (focus intro w_ hSw; (try dsimp only at hSw); go_simp; (try simp only [hSw]); (try rfl)); rotate_left; try simp only [Lga, Lgz, Lgs, Act.put, Lsa, Lsz, Lss]
    refine tkH 11 (.bool true) hHeld ?_ ?_; (focus intro w_ hSw; (try dsimp only at hSw); go_simp; (try simp only [hSw]); (try simp [htb])); try simp only [Lga, Lgz, Lgs, Act.put, Lsa, Lsz, Lss]
    refine tkH 12 (.bool true) hHeld ?_ ?_; (focus intro w_ hSw; (try dsimp only at hSw); go_simp; (try simp only [hSw]); (try simp [htb])); try simp only [Lga, Lgz, Lgs, Act.put, Lsa, Lsz, Lss]
    refine tkH 13 ?_ hHeld ?_ ?_; rotate_left; (focus intro w_ hSw; (try dsimp only at hSw); go_simp; (try simp only [hSw]); (try rfl)); rotate_left; try simp only [Lga, Lgz, Lgs, Act.put, Lsa, Lsz, Lss]
    refine tkH 14 ?_ hHeld ?_ ?_; rotate_left; (focus intro w_ hSw; (try dsimp only at hSw); go_simp; (try simp only [hSw]); (try rfl)); rotate_left; try simp only [Lga, Lgz, Lgs, Act.put, Lsa, Lsz, Lss]
    refine tkH 15 ?_ hHeld ?_ ?_; rotate_left; (focus intro w_ hSw; (try dsimp only at hSw); go_simp; (try simp only [hSw]); (try rfl)); rotate_left; try simp only [Lga, Lgz, Lgs, Act.put, Lsa, Lsz, Lss]
    refine tkH 16 ?_ hHeld ?_ ?_; rotate_left; (focus intro w_ hSw; (try dsimp only at hSw); go_simp; (try simp only [hSw]); (try rfl)); rotate_left; try simp only [Lga, Lgz, Lgs, Act.put, Lsa, Lsz, Lss]
    refine tkH 17 ?_ hHeld ?_ ?_; rotate_left; (focus intro w_ hSw; (try dsimp only at hSw); go_simp; (try simp only [hSw]); (try rfl)); rotate_left; try simp only [Lga, Lgz, Lgs, Act.put, Lsa, Lsz, Lss]
    refine wpAnyH_ready (rs := [18]) (by kernel_rfl) (by simp) ?_
    refine AllReadyH.cons rfl (fun K hK => ?_) AllReadyH.nil
    go_simp
    go_wp2_with (go_at_call 261; refine Calls.mono (canon_calls _ _) ?_; rintro e1 w1 ⟨bf, rfl, rfl⟩)
    (first | refine hK.out _ _ hHeld0 (fun hHeld => ?_) | refine hK _ _ hHeld0 (fun hHeld => ?_)); try simp only [Lga, Lgz, Lgs, Act.put, Lsa, Lsz, Lss]
    refine wpAnyH_ready (rs := [19]) (by kernel_rfl) (by simp) ?_
    refine AllReadyH.cons rfl (fun K hK => ?_) AllReadyH.nil
    go_simp
    go_wp2_with (go_at_call 260; refine Calls.mono (samef_calls _ _ _) ?_; rintro e1 w1 ⟨bs, rfl, rfl⟩)
    (first | refine hK.out _ _ hHeld0 (fun hHeld => ?_) | refine hK _ _ hHeld0 (fun hHeld => ?_)); try simp only [Lga, Lgz, Lgs, Act.put, Lsa, Lsz, Lss]
    refine tkH 20 ?_ hHeld ?_ ?_; rotate_left; (focus intro w_ hSw; (try dsimp only at hSw); go_simp; (try simp only [hSw]); (try rfl)); rotate_left; try simp only [Lga, Lgz, Lgs, Act.put, Lsa, Lsz, Lss]
    refine tkH 21 ?_ hHeld ?_ ?_; rotate_left; (focus intro w_ hSw; (try dsimp only at hSw); go_simp; (try simp only [hSw]); (try rfl)); rotate_left; try simp only [Lga, Lgz, Lgs, Act.put, Lsa, Lsz, Lss]
    refine wpAnyH_done (by kernel_rfl) ?_ _
    clear hK K
    go_wp2_with fail
    go_ret
    exact ⟨_, rfl, bdr (bal (Below.refl _ _) _)⟩
   ·
    have h4b : (kind == 4) = true := by simpa using h4
    have hnb : (num == 0) = true := by simpa using hn
    have htb : tl.isEmpty = false := by simpa using ht
    clear h4 hn ht
    refine tkH 0 ?_ hHeld ?_ ?_; rotate_left; (focus intro w_ hSw; (try dsimp only at hSw); go_simp; (try simp only [hSw]); (try rfl)); rotate_left; try simp only [Lga, Lgz, Lgs, Act.put, Lsa, Lsz, Lss]
    refine tkH 1 ?_ hHeld ?_ ?_; rotate_left; (focus intro w_ hSw; (try dsimp only at hSw); go_simp; (try simp only [hSw]); (try rfl)); rotate_left; try simp only [Lga, Lgz, Lgs, Act.put, Lsa, Lsz, Lss]
    refine tkH 2 (.bool true) hHeld ?_ ?_; (focus intro w_ hSw; (try dsimp only at hSw); go_simp; (try simp only [hSw]); (try simp [h4b])); try simp only [Lga, Lgz, Lgs, Act.put, Lsa, Lsz, Lss]
    refine tkH 3 ?_ hHeld ?_ ?_; rotate_left; (focus intro w_ hSw; (try dsimp only at hSw); go_simp; (try simp only [hSw]); (try rfl)); rotate_left; try simp only [Lga, Lgz, Lgs, Act.put, Lsa, Lsz, Lss]
    refine tkH 4 ?_ hHeld ?_ ?_; rotate_left; (focus intro w_ hSw; (try dsimp only at hSw); go_simp; (try simp only [hSw]); (try rfl)); rotate_left; try simp only [Lga, Lgz, Lgs, Act.put, Lsa, Lsz, Lss]
    refine tkH 5 ?_ hHeld ?_ ?_; rotate_left; (focus intro w_ hSw; (try dsimp only at hSw); go_simp; (try simp only [hSw]); (try rfl)); rotate_left; try simp only [Lga, Lgz, Lgs, Act.put, Lsa, Lsz, Lss]
    refine tkH 6 (.bool true) hHeld ?_ ?_; (focus intro w_ hSw; (try dsimp only at hSw); go_simp; (try simp only [hSw]); (try simp [hnb])); try simp only [Lga, Lgz, Lgs, Act.put, Lsa, Lsz, Lss]
    refine tkH 7 (.bool true) hHeld ?_ ?_; (focus intro w_ hSw; (try dsimp only at hSw); go_simp; (try simp only [hSw]); (try simp [hnb])); try simp only [Lga, Lgz, Lgs, Act.put, Lsa, Lsz, Lss]
    refine tkH 8 ?_ hHeld ?_ ?_; rotate_left; (focus intro w_ hSw; (try dsimp only at hSw); go_simp; (try simp only [hSw]); (try rfl)); rotate_left; try simp only [Lga, Lgz, Lgs, Act.put, Lsa, Lsz, Lss]
    refine tkH 9 ?_ hHeld ?_ ?_; rotate_left; (focus intro w_ hSw; (try dsimp only at hSw); go_simp; (try simp only [hSw]); (try rfl)); rotate_left; try simp only [Lga, Lgz, Lgs, Act.put, Lsa, Lsz, Lss]
    refine tkH 10 ?_ hHeld ?_ ?_; rotate_left; (focus intro w_ hSw; (try dsimp only at hSw); go_simp; (try simp only [hSw]); (try rfl)); rotate_left; try simp only [Lga, Lgz, Lgs, Act.put, Lsa, Lsz, Lss]
    refine tkH 11 (.bool false) hHeld ?_ ?_; (focus intro w_ hSw; (try dsimp only at hSw); go_simp; (try simp only [hSw]); (try simp [htb])); try simp only [Lga, Lgz, Lgs, Act.put, Lsa, Lsz, Lss]
    refine tkH 12 (.bool false) hHeld ?_ ?_; (focus intro w_ hSw; (try dsimp only at hSw); go_simp; (try simp only [hSw]); (try simp [htb])); try simp only [Lga, Lgz, Lgs, Act.put, Lsa, Lsz, Lss]
    refine tkH 13 ?_ hHeld ?_ ?_; rotate_left; (focus intro w_ hSw; (try dsimp only at hSw); go_simp; (try simp only [hSw]); (try rfl)); rotate_left; try simp only [Lga, Lgz, Lgs, Act.put, Lsa, Lsz, Lss]
    refine wpAnyH_take (i := 14) (v := undef) rfl (by kernel_rfl) (by kernel_rfl) (by kernel_rfl) (fun _ _ _ h => h) (Or.inr ⟨by kernel_rfl, rfl⟩) hHeld ?_
    try simp only [Lga, Lgz, Lgs, Act.put, Lsa, Lsz, Lss]
    refine wpAnyH_take (i := 15) (v := undef) rfl (by kernel_rfl) (by kernel_rfl) (by kernel_rfl) (fun _ _ _ h => h) (Or.inr ⟨by kernel_rfl, rfl⟩) hHeld ?_
    try simp only [Lga, Lgz, Lgs, Act.put, Lsa, Lsz, Lss]
    refine wpAnyH_take (i := 16) (v := undef) rfl (by kernel_rfl) (by kernel_rfl) (by kernel_rfl) (fun _ _ _ h => h) (Or.inr ⟨by kernel_rfl, rfl⟩) hHeld ?_
    try simp only [Lga, Lgz, Lgs, Act.put, Lsa, Lsz, Lss]
    refine wpAnyH_take (i := 17) (v := undef) rfl (by kernel_rfl) (by kernel_rfl) (by kernel_rfl) (fun _ _ _ h => h) (Or.inr ⟨by kernel_rfl, rfl⟩) hHeld ?_
    try simp only [Lga, Lgz, Lgs, Act.put, Lsa, Lsz, Lss]
    refine wpAnyH_take (i := 18) (v := undef) rfl (by kernel_rfl) (by kernel_rfl) (by kernel_rfl) (fun _ _ _ h => h) (Or.inr ⟨by kernel_rfl, rfl⟩) hHeld ?_
    try simp only [Lga, Lgz, Lgs, Act.put, Lsa, Lsz, Lss]
    refine wpAnyH_take (i := 19) (v := undef) rfl (by kernel_rfl) (by kernel_rfl) (by kernel_rfl) (fun _ _ _ h => h) (Or.inr ⟨by kernel_rfl, rfl⟩) hHeld ?_
    try simp only [Lga, Lgz, Lgs, Act.put, Lsa, Lsz, Lss]
    refine tkH 20 (.bool false) hHeld ?_ ?_; (focus intro w_ hSw; (try dsimp only at hSw); go_simp; (try simp only [hSw]); (try simp [h4b])); try simp only [Lga, Lgz, Lgs, Act.put, Lsa, Lsz, Lss]
    refine tkH 21 ?_ hHeld ?_ ?_; rotate_left; (focus intro w_ hSw; (try dsimp only at hSw); go_simp; (try simp only [hSw]); (try rfl)); rotate_left; try simp only [Lga, Lgz, Lgs, Act.put, Lsa, Lsz, Lss]
    refine wpAnyH_done (by kernel_rfl) ?_ _
    go_wp2_with fail
    go_ret
    exact ⟨_, rfl, bdr (bal (Below.refl _ _) _)⟩
  ·
   have h4b : (kind == 4) = true := by simpa using h4
   have hnb : (num == 0) = false := by simpa using hn
   clear h4 hn
   refine tkH 0 ?_ hHeld ?_ ?_; rotate_left; (focus intro w_ hSw; (try dsimp only at hSw); go_simp; (try simp only [hSw]); (try rfl)); rotate_left; try simp only [Lga, Lgz, Lgs, Act.put, Lsa, Lsz, Lss]
   refine tkH 1 ?_ hHeld ?_ ?_; rotate_left; (focus intro w_ hSw; (try dsimp only at hSw); go_simp; (try simp only [hSw]); (try rfl)); rotate_left; try simp only [Lga, Lgz, Lgs, Act.put, Lsa, Lsz, Lss]
   refine tkH 2 (.bool true) hHeld ?_ ?_; (focus intro w_ hSw; (try dsimp only at hSw); go_simp; (try simp only [hSw]); (try simp [h4b])); try simp only [Lga, Lgz, Lgs, Act.put, Lsa, Lsz, Lss]
   refine tkH 3 ?_ hHeld ?_ ?_; rotate_left; (focus intro w_ hSw; (try dsimp only at hSw); go_simp; (try simp only [hSw]); (try rfl)); rotate_left; try simp only [Lga, Lgz, Lgs, Act.put, Lsa, Lsz, Lss]
   refine tkH 4 ?_ hHeld ?_ ?_; rotate_left; (focus intro w_ hSw; (try dsimp only at hSw); go_simp; (try simp only [hSw]); (try rfl)); rotate_left; try simp only [Lga, Lgz, Lgs, Act.put, Lsa, Lsz, Lss]
   refine tkH 5 ?_ hHeld ?_ ?_; rotate_left; (focus intro w_ hSw; (try dsimp only at hSw); go_simp; (try simp only [hSw]); (try rfl)); rotate_left; try simp only [Lga, Lgz, Lgs, Act.put, Lsa, Lsz, Lss]
   refine tkH 6 (.bool false) hHeld ?_ ?_; (focus intro w_ hSw; (try dsimp only at hSw); go_simp; (try simp only [hSw]); (try simp [hnb])); try simp only [Lga, Lgz, Lgs, Act.put, Lsa, Lsz, Lss]
   refine tkH 7 (.bool false) hHeld ?_ ?_; (focus intro w_ hSw; (try dsimp only at hSw); go_simp; (try simp only [hSw]); (try simp [hnb])); try simp only [Lga, Lgz, Lgs, Act.put, Lsa, Lsz, Lss]
   refine tkH 8 ?_ hHeld ?_ ?_; rotate_left; (focus intro w_ hSw; (try dsimp only at hSw); go_simp; (try simp only [hSw]); (try rfl)); rotate_left; try simp only [Lga, Lgz, Lgs, Act.put, Lsa, Lsz, Lss]
   refine wpAnyH_take (i := 9) (v := undef) rfl (by kernel_rfl) (by kernel_rfl) (by kernel_rfl) (fun _ _ _ h => h) (Or.inr ⟨by kernel_rfl, rfl⟩) hHeld ?_
   try simp only [Lga, Lgz, Lgs, Act.put, Lsa, Lsz, Lss]
   refine wpAnyH_take (i := 10) (v := undef) rfl (by kernel_rfl) (by kernel_rfl) (by kernel_rfl) (fun _ _ _ h => h) (Or.inr ⟨by kernel_rfl, rfl⟩) hHeld ?_
   try simp only [Lga, Lgz, Lgs, Act.put, Lsa, Lsz, Lss]
   refine wpAnyH_take (i := 11) (v := undef) rfl (by kernel_rfl) (by kernel_rfl) (by kernel_rfl) (fun _ _ _ h => h) (Or.inr ⟨by kernel_rfl, rfl⟩) hHeld ?_
   try simp only [Lga, Lgz, Lgs, Act.put, Lsa, Lsz, Lss]
   refine tkH 12 (.bool false) hHeld ?_ ?_; (focus intro w_ hSw; (try dsimp only at hSw); go_simp; (try simp only [hSw]); (try simp [h4b])); try simp only [Lga, Lgz, Lgs, Act.put, Lsa, Lsz, Lss]
   refine tkH 13 ?_ hHeld ?_ ?_; rotate_left; (focus intro w_ hSw; (try dsimp only at hSw); go_simp; (try simp only [hSw]); (try rfl)); rotate_left; try simp only [Lga, Lgz, Lgs, Act.put, Lsa, Lsz, Lss]
   refine wpAnyH_take (i := 14) (v := undef) rfl (by kernel_rfl) (by kernel_rfl) (by kernel_rfl) (fun _ _ _ h => h) (Or.inr ⟨by kernel_rfl, rfl⟩) hHeld ?_
   try simp only [Lga, Lgz, Lgs, Act.put, Lsa, Lsz, Lss]
   refine wpAnyH_take (i := 15) (v := undef) rfl (by kernel_rfl) (by kernel_rfl) (by kernel_rfl) (fun _ _ _ h => h) (Or.inr ⟨by kernel_rfl, rfl⟩) hHeld ?_
   try simp only [Lga, Lgz, Lgs, Act.put, Lsa, Lsz, Lss]
   refine wpAnyH_take (i := 16) (v := undef) rfl (by kernel_rfl) (by kernel_rfl) (by kernel_rfl) (fun _ _ _ h => h) (Or.inr ⟨by kernel_rfl, rfl⟩) hHeld ?_
   try simp only [Lga, Lgz, Lgs, Act.put, Lsa, Lsz, Lss]
   refine wpAnyH_take (i := 17) (v := undef) rfl (by kernel_rfl) (by kernel_rfl) (by kernel_rfl) (fun _ _ _ h => h) (Or.inr ⟨by kernel_rfl, rfl⟩) hHeld ?_
   try simp only [Lga, Lgz, Lgs, Act.put, Lsa, Lsz, Lss]
   refine wpAnyH_take (i := 18) (v := undef) rfl (by kernel_rfl) (by kernel_rfl) (by kernel_rfl) (fun _ _ _ h => h) (Or.inr ⟨by kernel_rfl, rfl⟩) hHeld ?_
   try simp only [Lga, Lgz, Lgs, Act.put, Lsa, Lsz, Lss]
   refine wpAnyH_take (i := 19) (v := undef) rfl (by kernel_rfl) (by kernel_rfl) (by kernel_rfl) (fun _ _ _ h => h) (Or.inr ⟨by kernel_rfl, rfl⟩) hHeld ?_
   try simp only [Lga, Lgz, Lgs, Act.put, Lsa, Lsz, Lss]
   refine tkH 20 (.bool false) hHeld ?_ ?_; (focus intro w_ hSw; (try dsimp only at hSw); go_simp; (try simp only [hSw]); (try simp [h4b])); try simp only [Lga, Lgz, Lgs, Act.put, Lsa, Lsz, Lss]
   refine tkH 21 ?_ hHeld ?_ ?_; rotate_left; (focus intro w_ hSw; (try dsimp only at hSw); go_simp; (try simp only [hSw]); (try rfl)); rotate_left; try simp only [Lga, Lgz, Lgs, Act.put, Lsa, Lsz, Lss]
   refine wpAnyH_done (by kernel_rfl) ?_ _
   go_wp2_with fail
   go_ret
   exact ⟨_, rfl, bdr (bal (Below.refl _ _) _)⟩
 ·
  have h4b : (kind == 4) = false := by simpa using h4
  clear h4
  refine tkH 0 ?_ hHeld ?_ ?_; rotate_left; (focus intro w_ hSw; (try dsimp only at hSw); go_simp; (try simp only [hSw]); (try rfl)); rotate_left; try simp only [Lga, Lgz, Lgs, Act.put, Lsa, Lsz, Lss]
  refine tkH 1 ?_ hHeld ?_ ?_; rotate_left; (focus intro w_ hSw; (try dsimp only at hSw); go_simp; (try simp only [hSw]); (try rfl)); rotate_left; try simp only [Lga, Lgz, Lgs, Act.put, Lsa, Lsz, Lss]
  refine tkH 2 (.bool false) hHeld ?_ ?_; (focus intro w_ hSw; (try dsimp only at hSw); go_simp; (try simp only [hSw]); (try simp [h4b])); try simp only [Lga, Lgz, Lgs, Act.put, Lsa, Lsz, Lss]
  refine tkH 3 ?_ hHeld ?_ ?_; rotate_left; (focus intro w_ hSw; (try dsimp only at hSw); go_simp; (try simp only [hSw]); (try rfl)); rotate_left; try simp only [Lga, Lgz, Lgs, Act.put, Lsa, Lsz, Lss]
  refine wpAnyH_take (i := 4) (v := undef) rfl (by kernel_rfl) (by kernel_rfl) (by kernel_rfl) (fun _ _ _ h => h) (Or.inr ⟨by kernel_rfl, rfl⟩) hHeld ?_
  try simp only [Lga, Lgz, Lgs, Act.put, Lsa, Lsz, Lss]
  refine wpAnyH_take (i := 5) (v := undef) rfl (by kernel_rfl) (by kernel_rfl) (by kernel_rfl) (fun _ _ _ h => h) (Or.inr ⟨by kernel_rfl, rfl⟩) hHeld ?_
  try simp only [Lga, Lgz, Lgs, Act.put, Lsa, Lsz, Lss]
  refine wpAnyH_take (i := 6) (v := undef) rfl (by kernel_rfl) (by kernel_rfl) (by kernel_rfl) (fun _ _ _ h => h) (Or.inr ⟨by kernel_rfl, rfl⟩) hHeld ?_
  try simp only [Lga, Lgz, Lgs, Act.put, Lsa, Lsz, Lss]
  refine tkH 7 (.bool false) hHeld ?_ ?_; (focus intro w_ hSw; (try dsimp only at hSw); go_simp; (try simp only [hSw]); (try simp [h4b])); try simp only [Lga, Lgz, Lgs, Act.put, Lsa, Lsz, Lss]
  refine tkH 8 ?_ hHeld ?_ ?_; rotate_left; (focus intro w_ hSw; (try dsimp only at hSw); go_simp; (try simp only [hSw]); (try rfl)); rotate_left; try simp only [Lga, Lgz, Lgs, Act.put, Lsa, Lsz, Lss]
  refine wpAnyH_take (i := 9) (v := undef) rfl (by kernel_rfl) (by kernel_rfl) (by kernel_rfl) (fun _ _ _ h => h) (Or.inr ⟨by kernel_rfl, rfl⟩) hHeld ?_
  try simp only [Lga, Lgz, Lgs, Act.put, Lsa, Lsz, Lss]
  refine wpAnyH_take (i := 10) (v := undef) rfl (by kernel_rfl) (by kernel_rfl) (by kernel_rfl) (fun _ _ _ h => h) (Or.inr ⟨by kernel_rfl, rfl⟩) hHeld ?_
  try simp only [Lga, Lgz, Lgs, Act.put, Lsa, Lsz, Lss]
  refine wpAnyH_take (i := 11) (v := undef) rfl (by kernel_rfl) (by kernel_rfl) (by kernel_rfl) (fun _ _ _ h => h) (Or.inr ⟨by kernel_rfl, rfl⟩) hHeld ?_
  try simp only [Lga, Lgz, Lgs, Act.put, Lsa, Lsz, Lss]
  refine tkH 12 (.bool false) hHeld ?_ ?_; (focus intro w_ hSw; (try dsimp only at hSw); go_simp; (try simp only [hSw]); (try simp [h4b])); try simp only [Lga, Lgz, Lgs, Act.put, Lsa, Lsz, Lss]
  refine tkH 13 ?_ hHeld ?_ ?_; rotate_left; (focus intro w_ hSw; (try dsimp only at hSw); go_simp; (try simp only [hSw]); (try rfl)); rotate_left; try simp only [Lga, Lgz, Lgs, Act.put, Lsa, Lsz, Lss]
  refine wpAnyH_take (i := 14) (v := undef) rfl (by kernel_rfl) (by kernel_rfl) (by kernel_rfl) (fun _ _ _ h => h) (Or.inr ⟨by kernel_rfl, rfl⟩) hHeld ?_
  try simp only [Lga, Lgz, Lgs, Act.put, Lsa, Lsz, Lss]
  refine wpAnyH_take (i := 15) (v := undef) rfl (by kernel_rfl) (by kernel_rfl) (by kernel_rfl) (fun _ _ _ h => h) (Or.inr ⟨by kernel_rfl, rfl⟩) hHeld ?_
  try simp only [Lga, Lgz, Lgs, Act.put, Lsa, Lsz, Lss]
  refine wpAnyH_take (i := 16) (v := undef) rfl (by kernel_rfl) (by kernel_rfl) (by kernel_rfl) (fun _ _ _ h => h) (Or.inr ⟨by kernel_rfl, rfl⟩) hHeld ?_
  try simp only [Lga, Lgz, Lgs, Act.put, Lsa, Lsz, Lss]
  refine wpAnyH_take (i := 17) (v := undef) rfl (by kernel_rfl) (by kernel_rfl) (by kernel_rfl) (fun _ _ _ h => h) (Or.inr ⟨by kernel_rfl, rfl⟩) hHeld ?_
  try simp only [Lga, Lgz, Lgs, Act.put, Lsa, Lsz, Lss]
  refine wpAnyH_take (i := 18) (v := undef) rfl (by kernel_rfl) (by kernel_rfl) (by kernel_rfl) (fun _ _ _ h => h) (Or.inr ⟨by kernel_rfl, rfl⟩) hHeld ?_
  try simp only [Lga, Lgz, Lgs, Act.put, Lsa, Lsz, Lss]
  refine wpAnyH_take (i := 19) (v := undef) rfl (by kernel_rfl) (by kernel_rfl) (by kernel_rfl) (fun _ _ _ h => h) (Or.inr ⟨by kernel_rfl, rfl⟩) hHeld ?_
  try simp only [Lga, Lgz, Lgs, Act.put, Lsa, Lsz, Lss]
  refine tkH 20 (.bool false) hHeld ?_ ?_; (focus intro w_ hSw; (try dsimp only at hSw); go_simp; (try simp only [hSw]); (try simp [h4b])); try simp only [Lga, Lgz, Lgs, Act.put, Lsa, Lsz, Lss]
  refine tkH 21 ?_ hHeld ?_ ?_; rotate_left; (focus intro w_ hSw; (try dsimp only at hSw); go_simp; (try simp only [hSw]); (try rfl)); rotate_left; try simp only [Lga, Lgz, Lgs, Act.put, Lsa, Lsz, Lss]
  refine wpAnyH_done (by kernel_rfl) ?_ _
  go_wp2_with fail
  go_ret
  exact ⟨_, rfl, bdr (bal (Below.refl _ _) _)⟩
section
variable {P : Program}
theorem run_loadVar_at (w : World) (p : Addr) (ty : TypeId) (cs : List Value) (d : TypeDesc) (hc : ∀ j v, cs[j]? = some v → w.cell? (p.add j) = some v)
    (hu : P.underlying ty = some d) (hd : d.isRow = true) (hi : (P.info? ty).map (·.size) = some cs.length) :
    (loadVar ty p).run P w = .ok (.agg cs.toArray) w := by
  have hl : (loadCells p cs.length).run P w = .ok cs.toArray w := run_loadCells_list (P := P) w p cs hc
  cases hq : P.info? ty with
  | none => simp [hq] at hi
  | some i =>
    have hs : i.size = cs.length := by simpa [hq] using hi
    have hagg : (isAgg ty).run P w = .ok true w := by
      unfold isAgg
      rw [Sem.run_bind, run_underlying hu w]
      cases d <;> simp_all
    simp [loadVar, Sem.run_bind, hagg, sizeOf, typeInfo, hq, hs, hl]
theorem wpList_load_at {ops : Array Oper} {rest : List Oper} {op : Oper} {a : Act} {w : World} {Q : Exit → Act → World → Prop} (hgd : op.guard = none) (ty : TypeId) (x : Operand) (ho : op.op = .load ty x)
    (p : Addr) (hx : a.eval x = .pointer (some p)) (cs : List Value) (d : TypeDesc) (hc : ∀ j v, cs[j]? = some v → w.cell? (p.add j) = some v)
    (hu : P.underlying ty = some d) (hd : d.isRow = true) (hi : (P.info? ty).map (·.size) = some cs.length)
    (h : wpList P ops Q rest (a.put op.dst (.agg cs.toArray)) w) : wpList P ops Q (op :: rest) a w := by
  refine wpList_plain hgd fun K hK => ?_
  unfold Oper.wp execOp
  simp only [ho, hx, Instr.loadAt, Instr.sureAddr, Sem.run_bind, Sem.run_pure, Result.andThen_ok, run_loadVar_at w p ty cs d hc hu hd hi]
  exact hK _ _ h
end
theorem valid_calls (A : Option Addr) (n c : Nat) (xs : List K.S181) (w : World) (hC : K.k181.C w A n xs) (hz : ∀ x ∈ xs, x.f0.size ≤ 140737488355328) (hn : n ≤ 140737488355328) : Calls Tryz.prog 117 #[.slice A n c] w (SomeBB w) := by
  have HC := Amk hC
  have HZ := Amk hz
  clear hC hz
  go_enter Tryz.func117, Tryz.ntmps117
  go_wp2_with fail
  go_loopg [8] n (fun kq v8 wx => ∃ j : Nat, v8 = .int .i64 (j : Nat) ∧ j + kq = n ∧ Aside0 (Below w.heap.size w wx))
  case atStart => exact ⟨0, rfl, by omega, ⟨Below.refl _ _⟩⟩
  case round =>
    obtain ⟨j, rfl, hj, HB⟩ := hrel
    cases gk with
    | zero =>
      have hge : decide ((j : Int) < (n : Int)) = false := decide_eq_false (by omega)
      have hge2 : decide (j < n) = false := decide_eq_false (by omega)
      go_wp2_with fail
      go_ret
      exact ⟨_, rfl, HB.out⟩
    | succ g =>
      have hlt : decide ((j : Int) < (n : Int)) = true := decide_eq_true (by omega)
      have hlt2 : decide (j < n) = true := decide_eq_true (by omega)
      obtain ⟨ad, cs, rfl, hcl, hK, hcc⟩ := Kd.C_get (Kd.C_below HC.out HB.out) K.z181 (j : Int) (by omega) (by omega)
      simp only [Int.toNat_natCast] at hcc hK
      obtain ⟨x, hx⟩ : ∃ x, xs.getD j K.z181 = x := ⟨_, rfl⟩
      have hxm : x.f0.size ≤ 140737488355328 := HZ.out x (by rw [← hx]; have : j < xs.length := by have := HC.out.1; omega
                                                             rw [List.getD_eq_getElem?_getD, List.getElem?_eq_getElem this]; exact List.getElem_mem this)
      rw [hx] at hK
      obtain rfl := K.k181_open hK
      have HNM : Aside0 (∀ W, Calls Tryz.prog 110 #[.string x.f0] W fun e w' => e = .returned (.bool (M.isName x.f0.data.toList)) ∧ Below W.heap.size W w') := ⟨fun W => U.refname_calls x.f0 hxm W⟩
      have HRG : Aside0 (∀ j_1 u, [.string x.f0, .int .i64 x.f1.f0, .int .i64 x.f1.f1, .string x.f1.f2, .float .f64 x.f1.f3][j_1]? = some u → wr.cell? ((ad.add (j * 5)).add j_1) = some u) := ⟨fun q u hu => by rw [add_add]; exact hcc q u hu⟩
      obtain ⟨nm, hnm⟩ : ∃ nm, M.isName x.f0.data.toList = nm := ⟨_, rfl⟩
      rw [hnm] at HNM
      have hjb : j ≤ 140737488355328 := by omega
      clear hcc hK hx hxm hcl hnm
      obtain ⟨f0, ⟨g0, g1, g2, g3⟩⟩ := x
      simp only at *
      go_upto_region 4 with (first
        | ((with_reducible refine gate_dst (N := 12) rfl ?_); refine wpList_load_at rfl 181 (.tmp 11) rfl (ad.add (j * 5)) rfl [.string f0, .int .i64 g0, .int .i64 g1, .string g2, .float .f64 g3] _ HRG.out Tryz.underlying181 rfl (by kernel_rfl) ?_)
        | ((with_reducible refine gate_store (t := 181) (p := 4) rfl ?_); refine wpList_store_blk 181 (.tmp 4) (.tmp 12) rfl rfl rfl (g := wr.heap.size) (e := 181) (.agg #[.string f0, .int .i64 g0, .int .i64 g1, .string g2, .float .f64 g3]) [.string f0, .int .i64 g0, .int .i64 g1, .string g2, .float .f64 g3] rfl rfl rfl (heap_alloc_new wr _) (by kernel_rfl) rfl (by simp [Value.oneCell']) ?_; intro W3 hw; have HB3 := Amk (hw.below (bal HB.out _) (Nat.le_trans HB.out.size (by simp)) HB.out.size); have HX3 := Amk hw.blk; clear hw))
      have p0 := (bqc HX3.out 0).trans (show _ = some (Value.string f0) from rfl)
      go_cut [22] (fun s22 wx => ∃ b22, s22 = .bool b22 ∧ Aside0 (Below w.heap.size w wx) ∧ Aside0 (wx.heap[wr.heap.size]? = some (.cells #[.string f0, .int .i64 g0, .int .i64 g1, .string g2, .float .f64 g3] 181 (0, 0))))
      case first =>
        cases nm with
        | false =>
          go_wp2_with (go_at_call 110; refine Calls.mono (HNM.out _) ?_; rintro e4 w4 ⟨rfl, hb⟩; have HB4 := Amk (bth HB3.out HB3.out.size hb); have HX4 := Amk ((hb.block _ (blt HX3.out)).trans HX3.out); clear hb)
          all_goals go_meet
          all_goals exact ⟨_, rfl, HB4, HX4⟩
        | true =>
          go_wp2_with (first
            | (go_at_call 110; refine Calls.mono (HNM.out _) ?_; rintro e4 w4 ⟨rfl, hb⟩; have HB4 := Amk (bth HB3.out HB3.out.size hb); have HX4 := Amk ((hb.block _ (blt HX3.out)).trans HX3.out); have p1 := (bqc HX4.out 1).trans (show _ = some (Value.int .i64 g0) from rfl); have p2 := (bqc HX4.out 2).trans (show _ = some (Value.int .i64 g1) from rfl); have p3 := (bqc HX4.out 3).trans (show _ = some (Value.string g2) from rfl); have p4 := (bqc HX4.out 4).trans (show _ = some (Value.float .f64 g3) from rfl); clear hb)
            | (go_at_call 194; refine Calls.mono (refg_calls g0 g1 g2 g3 _) ?_; rintro e5 w5 ⟨b5, rfl, hb⟩; have HB5 := Amk (bth HB4.out HB4.out.size hb); have HX5 := Amk ((hb.block _ (blt HX4.out)).trans HX4.out); clear hb; cases b5))
          all_goals go_meet
          all_goals exact ⟨_, rfl, HB5, HX5⟩
      case rest =>
        obtain ⟨b22, rfl, HB6, HX6⟩ := hcut
        clear HB HB3 HX3 p0 HRG HNM
        generalize wr.heap.size = pb at *
        cases b22 with
        | true =>
          go_wp2_with fail
          go_ret
          exact ⟨_, rfl, HB6.out⟩
        | false =>
          go_wp2_with fail
          go_loopg [5] j (fun kq v5 wx => ∃ k : Nat, v5 = .int .i64 (k : Nat) ∧ k + kq = j ∧ Aside0 (Below w.heap.size w wx) ∧ Aside0 (wx.heap[pb]? = some (.cells #[.string f0, .int .i64 g0, .int .i64 g1, .string g2, .float .f64 g3] 181 (0, 0))))
          case atStart => exact ⟨0, rfl, by omega, HB6, HX6⟩
          case round =>
            obtain ⟨k, rfl, hk, HB7, HX7⟩ := hrel
            clear HB6 HX6
            cases gk with
            | zero =>
              have hge3 : decide ((k : Int) < (j : Int)) = false := decide_eq_false (by omega)
              have hge4 : decide (k < j) = false := decide_eq_false (by omega)
              go_wp2_with fail
              all_goals first
                | (go_ret; exact ⟨_, rfl, HB7.out⟩)
                | (go_roundg g
                   case rel => exact ⟨j + 1, by go_num, by omega, HB7⟩
                   case measure => omega)
            | succ g2 =>
              have hlt3 : decide ((k : Int) < (j : Int)) = true := decide_eq_true (by omega)
              have hlt4 : decide (k < j) = true := decide_eq_true (by omega)
              obtain ⟨ad2, hade, hcell, _⟩ := K.at_T181 (Kd.C_below HC.out HB7.out) (k : Int) (by omega) (by omega)
              injection hade with hade
              subst hade
              simp only [Int.toNat_natCast] at hcell
              obtain ⟨y, hy⟩ : ∃ y, (K.rd_T181 xs (k : Int)).f0 = y := ⟨_, rfl⟩
              rw [hy] at hcell
              have p0 := (bqc HX7.out 0).trans (show _ = some (Value.string f0) from rfl)
              clear hy
              have HSX : Aside0 ((fun W : World => W.cell? (ad.add (k * 5)) = some (.string y) ∧ W.cell? ⟨pb, 0, none⟩ = some (.string f0)) wr.drew) := ⟨⟨hcell, p0⟩⟩
              have HB8 := Amk (bth HB7.out HB7.out.size (bdr (Below.refl _ _)))
              have HX8 := Amk (blk_drew HX7.out)
              have hkb : k ≤ 140737488355328 := by omega
              go_upto_region 9 with (fail)
              go_region_with (fail)
              all_goals go_wp2_with fail
              all_goals first
                | (go_ret; exact ⟨_, rfl, HB8.out⟩)
                | (go_roundg g2
                   case rel => exact ⟨k + 1, by go_num, by omega, HB8, HX8⟩
                   case measure => omega)
def MsgQ (w : World) (topic body : ByteArray) (e : Ending) (w' : World) : Prop := ∃ r, e = .returned (.bool r) ∧ (r = true → M.goodB topic.data.toList = true ∧ body.size ≤ 1024) ∧ Below w.heap.size w w'
theorem msg_calls (topic body : ByteArray) (AP : Option Addr) (nP cP : Nat) (props : List K.S181) (dur : Bool) (til : Int) (w : World) (hC : K.k181.C w AP nP props) (hz : ∀ x ∈ props, x.f0.size ≤ 140737488355328) (hn : nP ≤ 140737488355328) :
    Calls Tryz.prog 66 #[.agg #[.string topic, .string body, .slice AP nP cP, .bool dur, .int .i64 til]] w (MsgQ w topic body) := by
  have HC := Amk hC
  have HZ := Amk hz
  have HB0 := Amk (bal (Below.refl w.heap.size w) (.cells #[.string topic, .string body, .slice AP nP cP, .bool dur, .int .i64 til] 62))
  have HBX := Amk (heap_alloc_new w (.cells #[.string topic, .string body, .slice AP nP cP, .bool dur, .int .i64 til] 62))
  clear hC hz
  obtain ⟨gd, hgd⟩ : ∃ gd, M.goodB topic.data.toList = gd := ⟨_, rfl⟩
  have HGD := Amk hgd
  have HGC : Aside0 (∀ W, Calls Tryz.prog 63 #[.string topic] W fun e w' => e = .returned (.bool gd) ∧ Below W.heap.size W w') := ⟨fun W => hgd ▸ U.refgood_calls topic W⟩
  clear hgd
  cases gd with
  | false =>
    go_enter Tryz.func66, Tryz.ntmps66
    go_wp2_with (go_at_call 63; refine Calls.mono (HGC.out _) ?_; rintro e1 w1 ⟨rfl, hb⟩; have HB1 := Amk (bth HB0.out HB0.out.size hb); clear hb)
    go_ret
    exact ⟨_, rfl, fun h => (by cases h), HB1.out⟩
  | true =>
    by_cases hl : body.size ≤ 1024
    · have hl1 : decide ((body.size : Int) ≤ 1024) = true := decide_eq_true (by omega)
      have hl2 : decide (body.size ≤ 1024) = true := decide_eq_true hl
      have HL := Amk hl
      clear hl
      go_enter Tryz.func66, Tryz.ntmps66
      go_wp2_with (first
        | (go_at_call 63; refine Calls.mono (HGC.out _) ?_; rintro e1 w1 ⟨rfl, hb⟩; have HB1 := Amk (bth HB0.out HB0.out.size hb); have HX1 := Amk ((hb.block _ (blt HBX.out)).trans HBX.out); have q1 := (bqc HX1.out 1).trans (show _ = some (Value.string body) from rfl); have q2 := (bqc HX1.out 2).trans (show _ = some (Value.slice AP nP cP) from rfl); clear hb)
        | (go_at_call 117; refine Calls.mono (valid_calls AP nP cP props _ (Kd.C_below HC.out HB1.out) HZ.out hn) ?_; rintro e2 w2 ⟨b2, rfl, hb⟩; have HB2 := Amk (bth HB1.out HB1.out.size hb); have HX2 := Amk ((hb.block _ (blt HX1.out)).trans HX1.out); have q4 := (bqc HX2.out 4).trans (show _ = some (Value.int .i64 til) from rfl); clear hb; cases b2))
      all_goals go_ret
      all_goals exact ⟨_, rfl, fun _ => ⟨HGD.out, HL.out⟩, HB2.out⟩
    · have hl1 : decide ((body.size : Int) ≤ 1024) = false := decide_eq_false (by omega)
      have hl2 : decide (body.size ≤ 1024) = false := decide_eq_false hl
      clear hl
      go_enter Tryz.func66, Tryz.ntmps66
      go_wp2_with (first
        | (go_at_call 63; refine Calls.mono (HGC.out _) ?_; rintro e1 w1 ⟨rfl, hb⟩; have HB1 := Amk (bth HB0.out HB0.out.size hb); have HX1 := Amk ((hb.block _ (blt HBX.out)).trans HBX.out); have q1 := (bqc HX1.out 1).trans (show _ = some (Value.string body) from rfl); clear hb))
      go_ret
      exact ⟨_, rfl, fun h => (by cases h), HB1.out⟩
def bytesIn (cs : List ByteArray) : Nat := (lists cs).flatten.length
theorem bytesIn_snoc (cs : List ByteArray) (c : ByteArray) : bytesIn (cs ++ [c]) = bytesIn cs + c.size := by
 unfold bytesIn lists
 rw [List.map_append, List.flatten_append, List.length_append]
 have : c.data.toList.length = c.size := by rw [Array.length_toList]; rfl
 simp [this]
def okOut (o : K.S66) : Prop := M.goodB o.f6.f0.data.toList = true ∧ o.f6.f1.size ≤ 1024
structure Light (chunks : List ByteArray) (nA : Nat) (outs : List K.S66) : Prop where
 bytes : chunks.length + nA + bytesIn chunks ≤ 16384
 few : outs.length ≤ 100
 each : ∀ o ∈ outs, okOut o
def HvQ (w : World) (chunks : List ByteArray) (nA : Nat) (outs : List K.S66) (e : Ending) (w' : World) : Prop := ∃ b, e = .returned (.bool b) ∧ (b = false → Light chunks nA outs) ∧ Below w.heap.size w w'
theorem heavy_calls (AH : Option Addr) (nH cH : Nat) (AA : Option Addr) (nA cA : Nat) (AO : Option Addr) (nO cO : Nat) (chunks : List ByteArray) (outs : List K.S66) (w : World)
  (hC : Kd.string.C w AH nH chunks) (hO : K.k66.C w AO nO outs) (hnH : nH ≤ 140737488355328) (hnA : nA ≤ 140737488355328) (hnO : nO ≤ 140737488355328) (hcs : ∀ c ∈ chunks, c.size ≤ 140737488355328)
  (hos : ∀ o ∈ outs, o.f6.f2.length ≤ 140737488355328 ∧ ∀ x ∈ o.f6.f2, x.f0.size ≤ 140737488355328) :
  Calls Tryz.prog 22 #[.agg #[.slice AH nH cH, .slice AA nA cA, .slice AO nO cO]] w (HvQ w chunks nA outs) := by
 have HC := Amk hC
 have HO := Amk hO
 have HCS := Amk hcs
 have HOS := Amk hos
 have HB0 := Amk (bal (Below.refl w.heap.size w) (.cells #[.slice AH nH cH, .slice AA nA cA, .slice AO nO cO] 41))
 have HBX := Amk (heap_alloc_new w (.cells #[.slice AH nH cH, .slice AA nA cA, .slice AO nO cO] 41))
 have HNH : Aside0 (chunks.length = nH) := ⟨hC.1⟩
 have HNO : Aside0 (outs.length = nO) := ⟨hO.1⟩
 clear hC hO hcs hos
 go_enter Tryz.func22, Tryz.ntmps22
 go_wp2_with fail
 go_loopg [18, 3] nH (fun kq v18 v3 wx => ∃ j T : Nat, v18 = .int .i64 (j : Nat) ∧ v3 = .int .i64 (T : Nat) ∧ j + kq = nH ∧ Aside0 (T = nH + nA + bytesIn (chunks.take j) ∧ (j = 0 ∨ T ≤ 16384)) ∧ Aside0 (wx = w.alloc (.cells #[.slice AH nH cH, .slice AA nA cA, .slice AO nO cO] 41)))
 case atStart => exact ⟨0, nH + nA, rfl, by go_num, by omega, ⟨by simp [bytesIn, lists], .inl rfl⟩, ⟨rfl⟩⟩
 case round =>
  obtain ⟨j, T, rfl, rfl, hj, HT, HW⟩ := hrel
  have hw := HW.out
  subst hw
  cases gk with
  | zero =>
   have hge : decide ((j : Int) < (nH : Int)) = false := decide_eq_false (by omega)
   have hge2 : decide (j < nH) = false := decide_eq_false (by omega)
   have HTT : Aside0 (T = nH + nA + bytesIn chunks) := ⟨by have := HT.out.1; rwa [List.take_of_length_le (by have := HNH.out; omega)] at this⟩
   have hTb : T ≤ 281474976710656 := by rcases HT.out.2 with h | h; (have := HT.out.1; rw [h] at this; simp [bytesIn, lists] at this; omega); omega
   clear HT HC HCS hj HW
   go_wp2_with fail
   clear hge hge2
   go_loopg [32] nO (fun kq v32 wx => ∃ i : Nat, v32 = .int .i64 (i : Nat) ∧ i + kq = nO ∧ Aside0 (∀ o ∈ outs.take i, okOut o) ∧ Aside0 (Below w.heap.size w wx) ∧ Aside0 (wx.heap[w.heap.size]? = some (.cells #[.slice AH nH cH, .slice AA nA cA, .slice AO nO cO] 41 (0, 0))))
   case atStart => exact ⟨0, rfl, by omega, ⟨by simp⟩, HB0, HBX⟩
   case round =>
    clear HB0 HBX
    obtain ⟨i, rfl, hi, HG, HB, HX⟩ := hrel
    cases gk with
    | zero =>
     have hge : decide ((i : Int) < (nO : Int)) = false := decide_eq_false (by omega)
     have hge2 : decide (i < nO) = false := decide_eq_false (by omega)
     have HGA : Aside0 (∀ o ∈ outs, okOut o) := ⟨by have := HG.out; rwa [List.take_of_length_le (by have := HNO.out; omega)] at this⟩
     have q2 := (bqc HX.out 2).trans (show _ = some (Value.slice AO nO cO) from rfl)
     by_cases hgt : T ≤ 16384
     ·
      have hg1 : decide ((16384 : Int) < (T : Int)) = false := decide_eq_false (by omega)
      have hg2 : decide (16384 < T) = false := decide_eq_false (by omega)
      by_cases hn : nO ≤ 100
      ·
       have hn1 : decide ((100 : Int) < (nO : Int)) = false := decide_eq_false (by omega)
       have hn2 : decide (100 < nO) = false := decide_eq_false (by omega)
       go_wp2_with fail
       go_ret
       exact ⟨_, rfl, fun _ => ⟨by have := HTT.out; have := HNH.out; omega, by have := HNO.out; omega, HGA.out⟩, HB.out⟩
      ·
       have hn1 : decide ((100 : Int) < (nO : Int)) = true := decide_eq_true (by omega)
       have hn2 : decide (100 < nO) = true := decide_eq_true (by omega)
       go_wp2_with fail
       go_ret
       exact ⟨_, rfl, fun h => (by cases h), HB.out⟩
     ·
      have hg1 : decide ((16384 : Int) < (T : Int)) = true := decide_eq_true (by omega)
      have hg2 : decide (16384 < T) = true := decide_eq_true (by omega)
      go_wp2_with fail
      go_ret
      exact ⟨_, rfl, fun h => (by cases h), HB.out⟩
    | succ g =>
     have hlt : decide ((i : Int) < (nO : Int)) = true := decide_eq_true (by omega)
     have hlt2 : decide (i < nO) = true := decide_eq_true (by omega)
     have hil : i < outs.length := by have := HNO.out; omega
     have hib : i ≤ 140737488355328 := by omega
     obtain ⟨ad, cs, rfl, hcl, hK, hcc⟩ := Kd.C_get (Kd.C_below HO.out HB.out) K.z66 (i : Int) (by omega) (by omega)
     simp only [Int.toNat_natCast] at hcc hK
     obtain ⟨x, hx⟩ : ∃ x, outs.getD i K.z66 = x := ⟨_, rfl⟩
     have hxi : outs[i] = x := by rw [← hx]; simp [hil]
     rw [hx] at hK
     have HXM := Amk (HOS.out x (by rw [← hxi]; exact List.getElem_mem hil))
     obtain ⟨A8, c8, rfl, l8, g8⟩ := K.k66_open hK
     have HTK : Aside0 (outs.take (i + 1) = outs.take i ++ [x]) := ⟨by rw [List.take_succ_eq_append_getElem hil, hxi]⟩
     obtain ⟨a0, a1, a2, a3, a4, a5, ⟨b0, b1, b2, b3, b4⟩⟩ := x
     simp only at *
     have HG8 := Amk g8
     obtain ⟨n8, hn8⟩ : ∃ n8, b2.length = n8 := ⟨_, rfl⟩
     rw [hn8] at hcc HG8 l8
     have HN8 : Aside0 (n8 ≤ 140737488355328) := ⟨hn8 ▸ HXM.out.1⟩
     have HRG : Aside0 (∀ q u, [.int .i64 a0, .int .i64 a1, .int .i64 a2, .string a3, .bool a4, .bool a5, .string b0, .string b1, .slice A8 n8 c8, .bool b3, .int .i64 b4][q]? = some u → wr.cell? ((ad.add (i * 11)).add q) = some u) := ⟨fun q u hu => by rw [add_add]; exact hcc q u hu⟩
     clear hcc hK hx hcl g8 l8 hxi hn8
     go_upto_region 12 with (first
      | ((with_reducible refine gate_dst (N := 35) rfl ?_); refine wpList_load_at rfl 66 (.tmp 34) rfl (ad.add (i * 11)) rfl [.int .i64 a0, .int .i64 a1, .int .i64 a2, .string a3, .bool a4, .bool a5, .string b0, .string b1, .slice A8 n8 c8, .bool b3, .int .i64 b4] _ HRG.out Tryz.underlying66 rfl (by kernel_rfl) ?_)
      | ((with_reducible refine gate_store (t := 66) (p := 7) rfl ?_); refine wpList_store_blk 66 (.tmp 7) (.tmp 35) rfl rfl rfl (g := wr.heap.size) (e := 66) (.agg #[.int .i64 a0, .int .i64 a1, .int .i64 a2, .string a3, .bool a4, .bool a5, .string b0, .string b1, .slice A8 n8 c8, .bool b3, .int .i64 b4]) [.int .i64 a0, .int .i64 a1, .int .i64 a2, .string a3, .bool a4, .bool a5, .string b0, .string b1, .slice A8 n8 c8, .bool b3, .int .i64 b4] rfl rfl rfl (heap_alloc_new wr _) (by kernel_rfl) rfl (by simp [Value.oneCell']) ?_; intro W3 hw; have HB3 := Amk (hw.below (bal HB.out _) (Nat.le_trans HB.out.size (by simp)) HB.out.size); have HB3w := Amk (hw.below (bal (Below.refl wr.heap.size wr) _) (by simp) (Nat.le_refl _)); have HX3 := Amk (hw.blk_ (blk_alloc HX.out _) (Nat.ne_of_lt (blt HX.out))); have HY3 := Amk hw.blk; clear hw))
     have p2 := (bqc HY3.out 2).trans (show _ = some (Value.int .i64 a2) from rfl)
     have p6 := (bqc HY3.out 6).trans (show _ = some (Value.string b0) from rfl)
     have p7 := (bqc HY3.out 7).trans (show _ = some (Value.string b1) from rfl)
     have p8 := (bqc HY3.out 8).trans (show _ = some (Value.slice A8 n8 c8) from rfl)
     have p9 := (bqc HY3.out 9).trans (show _ = some (Value.bool b3) from rfl)
     have p10 := (bqc HY3.out 10).trans (show _ = some (Value.int .i64 b4) from rfl)
     go_cut [51] (fun s51 wx => ∃ b51, s51 = .bool b51 ∧ Aside0 (b51 = false → M.goodB b0.data.toList = true ∧ b1.size ≤ 1024) ∧ Aside0 (Below w.heap.size w wx) ∧ Aside0 (wx.heap[w.heap.size]? = some (.cells #[.slice AH nH cH, .slice AA nA cA, .slice (some ad) nO cO] 41 (0, 0))))
     case first =>
      by_cases h8 : n8 ≤ 1000
      ·
       have h81 : decide ((1000 : Int) < (n8 : Int)) = false := decide_eq_false (by omega)
       have h82 : decide (1000 < n8) = false := decide_eq_false (by omega)
       clear h8
       go_wp2_with (go_at_call 66; refine Calls.mono (msg_calls b0 b1 A8 n8 c8 b2 b3 b4 _ (Kd.C_below HG8.out HB3w.out) HXM.out.2 HN8.out) ?_; rintro e4 w4 ⟨r, rfl, hr, hb⟩; have HRR := Amk hr; have HB4 := Amk (bth HB3.out HB3.out.size hb); have HX4 := Amk ((hb.block _ (blt HX3.out)).trans HX3.out); have HY4 := Amk ((hb.block _ (blt HY3.out)).trans HY3.out); have p2 := (bqc HY4.out 2).trans (show _ = some (Value.int .i64 a2) from rfl); clear hb hr; cases r)
       all_goals go_meet
       all_goals first
        | exact ⟨_, rfl, ⟨fun h => by cases h⟩, HB4, HX4⟩
        | exact ⟨_, rfl, ⟨fun _ => HRR.out (by trivial)⟩, HB4, HX4⟩
      ·
       have h81 : decide ((1000 : Int) < (n8 : Int)) = true := decide_eq_true (by omega)
       have h82 : decide (1000 < n8) = true := decide_eq_true (by omega)
       clear h8
       go_wp2_with fail
       go_meet
       exact ⟨_, rfl, ⟨fun h => by cases h⟩, HB3, HX3⟩
     case rest =>
      obtain ⟨b51, rfl, HBO, HB5, HX5⟩ := hcut
      cases b51 with
      | true =>
       go_wp2_with fail
       go_ret
       exact ⟨_, rfl, fun h => (by cases h), HB5.out⟩
      | false =>
       have HG2 : Aside0 (∀ o ∈ outs.take (i + 1), okOut o) := ⟨by
        rw [HTK.out]
        intro o ho
        rcases List.mem_append.1 ho with ho | ho
        ·
         exact HG.out o ho
        ·
         rw [List.mem_singleton] at ho; subst ho; exact HBO.out rfl⟩
       go_wp2_with fail
       go_roundg g
       case rel => exact ⟨i + 1, by go_num, by omega, HG2, HB5, HX5⟩
       case measure => omega
  | succ g =>
   have hlt : decide ((j : Int) < (nH : Int)) = true := decide_eq_true (by omega)
   have hlt2 : decide (j < nH) = true := decide_eq_true (by omega)
   have hjl : j < chunks.length := by have := HNH.out; omega
   obtain ⟨ad, rfl, hcell⟩ := Kd.at_string (Kd.C_below HC.out HB0.out) (j : Int) (by omega) (by omega)
   simp only [Int.toNat_natCast] at hcell
   obtain ⟨c, hc⟩ : ∃ c, rdOf ByteArray.empty chunks (j : Int) = c := ⟨_, rfl⟩
   rw [hc] at hcell
   have hcn : c = chunks[j] := by rw [← hc]; simp [rdOf, hjl]
   have hcz : c.size ≤ 140737488355328 := HCS.out c (by rw [hcn]; exact List.getElem_mem hjl)
   have HTN : Aside0 (T + c.size = nH + nA + bytesIn (chunks.take (j + 1))) := ⟨by rw [List.take_succ_eq_append_getElem hjl, ← hcn, bytesIn_snoc, HT.out.1]; omega⟩
   have hTb : T ≤ 281474976710656 := by rcases HT.out.2 with h | h; (have := HT.out.1; rw [h] at this; simp [bytesIn, lists] at this; omega); omega
   have hjb : j ≤ 140737488355328 := by omega
   clear hc hcn
   by_cases hgt : T + c.size ≤ 16384
   ·
    have hg1 : decide ((16384 : Int) < (T : Int) + (c.size : Int)) = false := decide_eq_false (by omega)
    have hg2 : decide (16384 < T + c.size) = false := decide_eq_false (by omega)
    go_wp2_with fail
    go_roundg g
    case rel => exact ⟨j + 1, T + c.size, by go_num, by go_num, by omega, ⟨HTN.out, .inr hgt⟩, ⟨rfl⟩⟩
    case measure => omega
   ·
    have hg1 : decide ((16384 : Int) < (T : Int) + (c.size : Int)) = true := decide_eq_true (by omega)
    have hg2 : decide (16384 < T + c.size) = true := decide_eq_true (by omega)
    go_wp2_with fail
    go_ret
    exact ⟨_, rfl, fun h => (by cases h), HB0.out⟩
structure Dn (w0 W : World) (cb sb : Nat) (xc : Array Value) (s : Mq) (vW vC : Value) : Prop where
 sblk : W.heap[sb]? = some (.cells (mqCells s vW vC) 45 (0, 0))
 cblk : W.heap[cb]? = some (.cells xc 41 (0, 0))
 will : kOp.R 64 W w0.heap.size (fun _ => True) vW s.will
 codes : (Kd.int .i64).R 3 W w0.heap.size (fun _ => True) vC s.codes
 bel : Below w0.heap.size w0 W
 bs : w0.heap.size ≤ sb
 bc : w0.heap.size ≤ cb
namespace Dn
variable {w0 W W1 : World} {cb sb : Nat} {xc : Array Value} {s s' : Mq} {vW vC : Value}
theorem sz (h : Dn w0 W cb sb xc s vW vC) : w0.heap.size ≤ W.heap.size := h.bel.size
theorem below (h : Dn w0 W cb sb xc s vW vC) (hb : Below W.heap.size W W1) : Dn w0 W1 cb sb xc s vW vC :=
 ⟨(hb.block _ (blt h.sblk)).trans h.sblk, (hb.block _ (blt h.cblk)).trans h.cblk, Kd.R_below h.will hb, Kd.R_below h.codes hb, bth h.bel h.sz hb, h.bs, h.bc⟩
theorem rest (h : Dn w0 W cb sb xc s vW vC) (r : ByteArray) : Dn w0 (W.setCell ⟨sb, 0, none⟩ (.string r)) cb sb xc { s with rest := r } vW vC :=
 ⟨by simpa [mqCells] using blk_set h.sblk 0 (.string r), blk_far h.cblk (blk_ne h.cblk h.sblk (by decide)) _, Kd.R_set h.will h.sblk (by decide) 0 _, Kd.R_set h.codes h.sblk (by decide) 0 _, below_set h.bel h.bs, h.bs, h.bc⟩
theorem cell (h : Dn w0 W cb sb xc s vW vC) (j : Nat) : W.cell? ⟨sb, j, none⟩ = (mqCells s vW vC)[j]? := bqc h.sblk j
theorem frozen (h : Dn w0 W cb sb xc s vW vC) (j : Nat) : W.frozen? ⟨sb, j, none⟩ = false := blk_frozen h.sblk j
theorem inn {AW AC : Option Addr} {nW cW nC cC : Nat} (h : Dn w0 W cb sb xc s (.slice AW nW cW) (.slice AC nC cC)) (hm : MqOk s) : nW = s.will.length ∧ nC = s.codes.length ∧ MqIn W s AW cW AC cC := by
 obtain ⟨e1, h1, h2⟩ := Kd.R_reads' h.will
 obtain ⟨e2, h3, h4⟩ := Kd.R_reads' h.codes
 subst e1 e2
 exact ⟨rfl, rfl, ⟨h2, h1, h4, h3, by have := hm.will; omega, by have := hm.codes; omega⟩⟩
end Dn
theorem Dn.store {w0 W W1 : World} {cb sb : Nat} {xc : Array Value} {s s' : Mq} {vW vC vW' vC' : Value} (h : Dn w0 W cb sb xc s vW vC) (hw : Wrote W W1 sb (mqCells s' vW' vC') 45) (hW : kOp.R 64 W w0.heap.size (fun _ => True) vW' s'.will) (hC : (Kd.int .i64).R 3 W w0.heap.size (fun _ => True) vC' s'.codes) : Dn w0 W1 cb sb xc s' vW' vC' :=
 ⟨hw.blk, hw.blk_ h.cblk (blk_ne h.cblk h.sblk (by decide)), R_wrote hW hw h.sblk (by decide), R_wrote hC hw h.sblk (by decide), hw.below h.bel h.sz h.bs, h.bs, h.bc⟩
theorem okOut.size {o : K.S66} (h : okOut o) : o.f6.f0.size ≤ 64 := by
 have h1 := h.1
 unfold M.goodB at h1
 simp only [Bool.and_eq_true, decide_eq_true_eq] at h1
 have : o.f6.f0.data.toList.length = o.f6.f0.size := by rw [Array.length_toList]; rfl
 omega
theorem give_results {W : World} {r : Nat} {cs : Array Value} {v5 : Value} {tmps : Array Value} (h4 : tmps.getD 4 undef = .pointer (some ⟨r, 0, none⟩)) (h5 : tmps.getD 5 undef = v5) (hb : W.heap[r]? = some (.cells cs 45 (0, 0))) (hs : cs.size = 7) :
  (results Tryz.f31 tmps).run Tryz.prog W = .ok (.tuple #[.agg cs, v5]) W := by
 have h1 := run_loadVar_row (P := Tryz.prog) W r 45 45 cs (0, 0) _ hb Tryz.underlying45 rfl (by rw [hs]; kernel_rfl)
 have h4' : tmps[4]?.getD undef = .pointer (some ⟨r, 0, none⟩) := by simpa using h4
 have h5' : tmps[5]?.getD undef = v5 := by simpa using h5
 simp [results, Tryz.results31, h4', h5', asAddr, h1]
theorem ActIs.few {client : ByteArray} {x : BAct} (h : ActIs client x) : x.ops.length ≤ 16 := by
 cases h with
 | bare ref ops _ _ h _ => exact h
 | _ => simp [sayAct, endAct, doAct]
theorem mq_cells {W : World} {b : Nat} {s : Mq} {v1 v2 : Value} (h : W.heap[b]? = some (.cells (mqCells s v1 v2) 45 (0, 0))) : W.cell? ⟨b, 0, none⟩ = some (.string s.rest) ∧ W.cell? ⟨b, 1, none⟩ = some (.bool s.up) ∧ W.cell? ⟨b, 2, none⟩ = some (.bool s.down) ∧ W.cell? ⟨b, 3, none⟩ = some (.string s.client) ∧ W.cell? ⟨b, 4, none⟩ = some (.bool s.clean) ∧ W.cell? ⟨b, 5, none⟩ = some v1 ∧ W.cell? ⟨b, 6, none⟩ = some v2 :=
 ⟨(bqc h 0).trans rfl, (bqc h 1).trans rfl, (bqc h 2).trans rfl, (bqc h 3).trans rfl, (bqc h 4).trans rfl, (bqc h 5).trans rfl, (bqc h 6).trans rfl⟩
theorem good_new2 : Good newMq := ⟨⟨by simp [newMq], by simp [newMq], by simp [newMq], by simp [newMq, ByteArray.size]⟩, fun _ => rfl⟩
structure Hd (w0 W : World) (b : Nat) (s : Mq) (l : List BAct) (v1 v2 v3 : Value) : Prop where
 blk : W.heap[b]? = some (.cells (mqCells s v1 v2) 45 (0, 0))
 will : kOp.R 64 W w0.heap.size (fun _ => True) v1 s.will
 codes : (Kd.int .i64).R 3 W w0.heap.size (fun _ => True) v2 s.codes
 acts : kAct.R 57 W w0.heap.size (fun _ => True) v3 l
namespace Hd
variable {w0 W W1 : World} {b : Nat} {s : Mq} {l : List BAct} {v1 v2 v3 : Value}
theorem below (h : Hd w0 W b s l v1 v2 v3) (hb : Below W.heap.size W W1) : Hd w0 W1 b s l v1 v2 v3 :=
 ⟨(hb.block _ (blt h.blk)).trans h.blk, Kd.R_below h.will hb, Kd.R_below h.codes hb, Kd.R_below h.acts hb⟩
theorem inn {AW AC : Option Addr} {nW cW nC cC : Nat} (h : Hd w0 W b s l (.slice AW nW cW) (.slice AC nC cC) v3) (hm : MqOk s) : nW = s.will.length ∧ nC = s.codes.length ∧ MqIn W s AW cW AC cC := by
 obtain ⟨e1, h1, h2⟩ := Kd.R_reads' h.will
 obtain ⟨e2, h3, h4⟩ := Kd.R_reads' h.codes
 subst e1 e2
 exact ⟨rfl, rfl, ⟨h2, h1, h4, h3, by have := hm.will; omega, by have := hm.codes; omega⟩⟩
end Hd
end Go.Proofs.YtednegmjjjdinaaGreatDoor.Ext
