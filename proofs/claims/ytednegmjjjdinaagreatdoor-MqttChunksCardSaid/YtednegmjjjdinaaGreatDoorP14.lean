/- Texts of this claim's author, joined and pruned by a program of his (pack.py): Zh, Zi, Zj, Zk, Zl. -/
import Derived.Test.YtednegmjjjdinaaGreatDoorP0
import Derived.Test.YtednegmjjjdinaaGreatDoorP1
import Derived.Test.YtednegmjjjdinaaGreatDoorP2
import Derived.Test.YtednegmjjjdinaaGreatDoorP3
import Derived.Test.YtednegmjjjdinaaGreatDoorP4
import Derived.Test.YtednegmjjjdinaaGreatDoorP5
import Derived.Test.YtednegmjjjdinaaGreatDoorP7
import Derived.Test.YtednegmjjjdinaaGreatDoorP10
import Derived.Test.YtednegmjjjdinaaGreatDoorP11
import Derived.Test.YtednegmjjjdinaaGreatDoorP12
import Derived.Test.YtednegmjjjdinaaGreatDoorP13
set_option maxRecDepth 100000
set_option maxHeartbeats 4000000
open Go.Proofs.YtednegmjjjdinaaGreatDoorW.PrintWords renaming blk_cell → bqc, below_alloc → bal, blk_alloc → bka
open List renaming setIfInBounds_toArray → Lsa, set_cons_zero → Lsz, set_cons_succ → Lss
open Go.Proofs.YtednegmjjjdinaaGreatDoorW.PrintWords.Aside0 renaming mk → Amk
namespace Go.Proofs.YtednegmjjjdinaaGreatDoor.Ext
open Go.RowKit Go.Proofs.YtednegmjjjdinaaGreatDoorW.PrintWords Go.Proofs.YtednegmjjjdinaaGreatDoorW.PrintLast Go.Proofs.YtednegmjjjdinaaGreatDoorW.PrintMore
set_option linter.unusedVariables false
set_option linter.unusedSimpArgs false
def pk0 (k f : Int) : Pk := ⟨k, f, 0, 0, [], [], 0, false, [], false, .slice none 0 0, .slice none 0 0⟩
structure Trio (w0 W : World) (h n e : Nat) (q : Pk) (x y : Int) : Prop where
 pk : W.heap[h]? = some (.cells q.cells 86 (0, 0))
 num : W.heap[n]? = some (.cells #[.int .i64 x] 3 (0, 0))
 err : W.heap[e]? = some (.cells #[.int .i64 y] 24 (0, 0))
 bel : Below w0.heap.size w0 W
 bh : w0.heap.size ≤ h
 bn : w0.heap.size ≤ n
 be : w0.heap.size ≤ e
 hn : h ≠ n
 he : h ≠ e
 ne : n ≠ e
namespace Trio
variable {w0 W W1 : World} {h n e : Nat} {q q' : Pk} {x y : Int}
theorem sz (t : Trio w0 W h n e q x y) : w0.heap.size ≤ W.heap.size := Nat.le_trans t.bh (Nat.le_of_lt (blk_lt t.pk))
theorem alloc (t : Trio w0 W h n e q x y) (o : Obj) : Trio w0 (W.alloc o) h n e q x y := ⟨bka t.pk o, bka t.num o, bka t.err o, bal t.bel o, t.bh, t.bn, t.be, t.hn, t.he, t.ne⟩
theorem wrote (t : Trio w0 W h n e q x y) (k : Wrote W W1 h q'.cells 86) : Trio w0 W1 h n e q' x y := ⟨k.blk, k.blk_ t.num (Ne.symm t.hn), k.blk_ t.err (Ne.symm t.he), k.below t.bel t.sz t.bh, t.bh, t.bn, t.be, t.hn, t.he, t.ne⟩
theorem setN (t : Trio w0 W h n e q x y) (a : Int) : Trio w0 (W.setCell ⟨n, 0, none⟩ (.int .i64 a)) h n e q a y := ⟨blk_far t.pk t.hn _, by simpa using blk_set t.num 0 (.int .i64 a), blk_far t.err (Ne.symm t.ne) _, below_set t.bel t.bn, t.bh, t.bn, t.be, t.hn, t.he, t.ne⟩
theorem setE (t : Trio w0 W h n e q x y) (a : Int) : Trio w0 (W.setCell ⟨e, 0, none⟩ (.int .i64 a)) h n e q x a := ⟨blk_far t.pk t.he _, blk_far t.num t.ne _, by simpa using blk_set t.err 0 (.int .i64 a), below_set t.bel t.be, t.bh, t.bn, t.be, t.hn, t.he, t.ne⟩
theorem drew (t : Trio w0 W h n e q x y) : Trio w0 W.drew h n e q x y := ⟨t.pk, t.num, t.err, t.bel.drew, t.bh, t.bn, t.be, t.hn, t.he, t.ne⟩
theorem kept {S : Nat → Prop} {w2 : World} (t : Trio w0 W h n e q x y) (hk : Kept W w2 S) (hp : w2.heap[h]? = some (.cells q'.cells 86 (0, 0))) (hb : Below w0.heap.size w0 w2) (h1 : ¬ S n) (h2 : ¬ S e) : Trio w0 w2 h n e q' x y :=
 ⟨hp, blk_kept t.num hk h1, blk_kept t.err hk h2, hb, t.bh, t.bn, t.be, t.hn, t.he, t.ne⟩
end Trio
theorem catch95 (h n e : Nat) (w0 W : World) (older : List PanicEntry) (q : Pk) (x y : Int) (hT : Trio w0 W h n e q x y) :
  CallsD Tryz.prog 95 #[.pointer (some ⟨h, 0, none⟩), .pointer (some ⟨n, 0, none⟩), .pointer (some ⟨e, 0, none⟩)] (.panicking ({ v := .iface 140 (.agg #[]), recovered := false } :: older)) W fun e' u' w' =>
   e' = .returned (.tuple #[]) ∧ u' = .panicking ({ v := .iface 140 (.agg #[]), recovered := true } :: older) ∧ Trio w0 w' h n e (pk0 0 0) 0 40 := by
 have HT := Amk hT
 clear hT
 refine callsD_of_wpS Tryz.func95 rfl fun c₀ cs hu => ?_
 apply wpS_seq
 apply wpS_region
 simp [wpOpsS, go_sem, recoverD, hu, Tryz.ntmps95, Exit.thenS]
 refine wpS_of_wp ?_
 simp only [Array.replicate_succ, Array.replicate_zero, List.push_toArray, List.append_toArray, List.nil_append, List.cons_append, Lsa, Lsz, Lss]
 have HU := Amk hu
 clear hu
 have hta : ∀ w : World, (Instr.typeAssert (.iface 140 (.agg #[])) 20 140 true).run Tryz.prog w = .ok (.tuple #[.agg #[], .bool true]) w := fun _ => by kernel_rfl
 go_wp2_with ((with_reducible refine gate_store (t := 86) (p := 0) rfl ?_); refine wpList_store_blk 86 (.tmp 0) (.tmp 12) rfl rfl rfl (g := h) (e := 86) (cur := q.cells) (.agg #[.int .i64 0, .int .i64 0, .int .i64 0, .int .i64 0, .string ⟨#[]⟩, .string ⟨#[]⟩, .int .i64 0, .bool false, .string ⟨#[]⟩, .bool false, .slice none 0 0, .slice none 0 0]) [.int .i64 0, .int .i64 0, .int .i64 0, .int .i64 0, .string ⟨#[]⟩, .string ⟨#[]⟩, .int .i64 0, .bool false, .string ⟨#[]⟩, .bool false, .slice none 0 0, .slice none 0 0] rfl rfl rfl (bka HT.out.pk _) (by kernel_rfl) rfl (by simp [Value.oneCell']) ?_; intro W1 HW; have HW1 := Amk HW; have cn := bqc (HW.blk_ (bka HT.out.num _) (Ne.symm HT.out.hn)) 0; have zn := blk_frozen (HW.blk_ (bka HT.out.num _) (Ne.symm HT.out.hn)) 0; have ce := bqc (HW.blk_ (bka HT.out.err _) (Ne.symm HT.out.he)) 0; have ze := blk_frozen (HW.blk_ (bka HT.out.err _) (Ne.symm HT.out.he)) 0; have hne := HT.out.ne; have hne2 := Ne.symm hne; simp only [List.getElem?_toArray, List.getElem?_cons_zero] at cn ce; clear HW)
 simp [bodyPostS, results, Tryz.results95]
 exact ((HT.out.alloc _).wrote (q' := pk0 0 0) HW1.out).setN 0 |>.setE 40
theorem idle95 (h n e : Nat) (W : World) :
  CallsD Tryz.prog 95 #[.pointer (some ⟨h, 0, none⟩), .pointer (some ⟨n, 0, none⟩), .pointer (some ⟨e, 0, none⟩)] .returning W fun e' u' w' => e' = .returned (.tuple #[]) ∧ u' = .returning ∧ w' = W := by
 refine callsD_of_wpS Tryz.func95 rfl fun c₀ cs hu => ?_
 apply wpS_seq
 apply wpS_region
 simp [wpOpsS, go_sem, recoverD, hu, Tryz.ntmps95, Exit.thenS]
 refine wpS_of_wp ?_
 simp only [Array.replicate_succ, Array.replicate_zero, List.push_toArray, List.append_toArray, List.nil_append, List.cons_append, Lsa, Lsz, Lss]
 have hnl : ∀ w : World, (binOp .eql 20 .nilIface .nilIface).run Tryz.prog w = .ok (.bool true) w := fun _ => by kernel_rfl
 have HU := Amk hu
 clear hu
 go_wp2_with fail
 cases c₀
 have := HU.out
 simp_all [bodyPostS, results, Tryz.results95]
structure Pkt where
 kind : Int
 flags : Int
 id : Int
 code : Int
 name : List UInt8
 text : List UInt8
 keep : Int
 will : Bool
 topic : List UInt8
 clean : Bool
 names : List ByteArray
 codes : List Int
def Pkt.pk (q : Pkt) (vN vC : Value) : Pk := ⟨q.kind, q.flags, q.id, q.code, q.name, q.text, q.keep, q.will, q.topic, q.clean, vN, vC⟩
def Pk.pkt (q : Pk) (ns : List ByteArray) (cs : List Int) : Pkt := ⟨q.kind, q.flags, q.id, q.code, q.name, q.text, q.keep, q.will, q.topic, q.clean, ns, cs⟩
def bare (o : Option (Pk × List UInt8)) : Option Pkt := o.map fun x => x.1.pkt [] []
def many (k f : Nat) (o : Option (Nat × List ByteArray × List Int)) : Option Pkt := o.map fun x => { pk0 k f with id := x.1 }.pkt x.2.1 x.2.2
def bodyF (k f : Nat) (l : List UInt8) : Option Pkt :=
 if k = 1 then bare ((connectF (pk0 k f) l).bind fun (q, l) => endF q l)
 else if k = 2 then bare (ackF (pk0 k f) l)
 else if k = 3 then bare (pubF (pk0 k f) f l)
 else if k = 4 ∨ k = 5 ∨ k = 6 ∨ k = 7 ∨ k = 11 then bare ((idF l).bind fun (n, l) => endF { pk0 k f with id := n } l)
 else if k = 8 then many k f (subF true true 8 l)
 else if k = 10 then many k f (subF true false 10 l)
 else if k = 9 then many k f (subF false true 9 l)
 else bare (endF (pk0 k f) l)
def BPost (w0 w : World) (g h : Nat) (o : Option Pkt) (e : Ending) (w' : World) : Prop :=
 match o with
 | some q => ∃ vN vC, e = .returned (.tuple #[]) ∧ PkAt w0 w' h (q.pk vN vC) ∧ Kd.string.R 9 w' w.heap.size (fun _ => True) vN q.names ∧ (Kd.int .i64).R 3 w' w.heap.size (fun _ => True) vC q.codes ∧ Below w0.heap.size w0 w' ∧ Kept w w' (GH g h)
 | none => e = .panicked (Stop 140) ∧ Below w0.heap.size w0 w' ∧ Kept w w' (GH g h) ∧ ∃ q, PkAt w0 w' h q
def NoLists (o : Option (Pk × List UInt8)) : Prop := ∀ q l, o = some (q, l) → q.names = .slice none 0 0 ∧ q.codes = .slice none 0 0
theorem NoLists.endF {q : Pk} {l : List UInt8} (h : q.names = .slice none 0 0 ∧ q.codes = .slice none 0 0) : NoLists (endF q l) := by
 intro q' l' e
 unfold Ext.endF at e
 split at e
 ·
  simp only [Option.some.injEq, Prod.mk.injEq] at e; rw [← e.1]; exact h
 ·
  cases e
theorem NoLists.bind {α : Type} {o : Option (α × List UInt8)} {f : α × List UInt8 → Option (Pk × List UInt8)} (h : ∀ x, NoLists (f x)) : NoLists (o.bind f) := by
 intro q l e
 cases o with
 | none => cases e
 | some x => exact h x q l e
theorem NoLists.ite {c : Prop} [Decidable c] {a b : Option (Pk × List UInt8)} (ha : NoLists a) (hb : NoLists b) : NoLists (if c then a else b) := by
 split
 ·
  exact ha
 ·
  exact hb
theorem NoLists.none : NoLists none := fun _ _ e => by cases e
theorem NoLists.some {q : Pk} {l : List UInt8} (h : q.names = .slice .none 0 0 ∧ q.codes = .slice .none 0 0) : NoLists (some (q, l)) := fun _ _ e => by
 simp only [Option.some.injEq, Prod.mk.injEq] at e; rw [← e.1]; exact h
theorem NoLists.then_ {o : Option (Pk × List UInt8)} (h : NoLists o) : NoLists (o.bind fun (q, l) => Ext.endF q l) := by
 intro q l e
 cases o with
 | none => cases e
 | some x => exact NoLists.endF (h x.1 x.2 rfl) q l e
theorem connectF_lists {p : Pk} {l : List UInt8} (h : p.names = .slice none 0 0 ∧ p.codes = .slice none 0 0) : NoLists (connectF p l) := by
 unfold connectF
 repeat' (first | exact NoLists.none | exact NoLists.some h | split)
theorem BPost.bare {w0 w w' : World} {g h : Nat} {o : Option (Pk × List UInt8)} {e : Ending} (hp : CPost w0 w g h o e w') (hn : NoLists o) : BPost w0 w g h (bare o) e w' := by
 cases o with
 | none => exact hp
 | some x =>
  obtain ⟨q, l⟩ := x
  obtain ⟨he, _, hk, hb, hkp⟩ := hp
  obtain ⟨h1, h2⟩ := hn q l rfl
  refine ⟨q.names, q.codes, he, hk, ?_, ?_, hb, hkp⟩
  ·
   rw [h1]; exact Kd.R_nil _ _ _ _ _
  ·
   rw [h2]; exact Kd.R_nil _ _ _ _ _
theorem BPost.many {w0 w w' : World} {g h k f : Nat} {o : Option (Nat × List ByteArray × List Int)} {e : Ending} (hp : SPost w0 w g h (pk0 k f) o e w') : BPost w0 w g h (many k f o) e w' := by
 cases o with
 | none => exact hp
 | some x =>
  obtain ⟨n, ns, cs⟩ := x
  obtain ⟨vN, vC, he, hs⟩ := hp
  exact ⟨vN, vC, he, hs.st.pk, hs.nm, hs.cd, hs.st.bel, hs.st.kept⟩
theorem body_calls (g h k f : Nat) (l : List UInt8) (w0 w : World) (hI : RdAt w0 w g l) (hP : PkAt w0 w h (pk0 k f)) (hne : g ≠ h) (hB : Below w0.heap.size w0 w) (hsz : w0.heap.size ≤ w.heap.size) (hk : 1 ≤ k) (hk2 : k ≤ 14) (hf : f < 16) :
  Calls Tryz.prog 99 #[.pointer (some ⟨g, 0, none⟩), .pointer (some ⟨h, 0, none⟩)] w (BPost w0 w g h (bodyF k f l)) := by
 have hz : (pk0 k f).names = .slice none 0 0 ∧ (pk0 k f).codes = .slice none 0 0 := ⟨rfl, rfl⟩
 unfold bodyF
 by_cases h1 : k = 1
 ·
  rw [if_pos h1]
  exact (body_conn g h l _ w0 w hI hP hne hB (by show (k : Int) = 1; omega)).mono fun e w' hp => BPost.bare hp (NoLists.then_ (connectF_lists hz))
 rw [if_neg h1]
 by_cases h2 : k = 2
 ·
  rw [if_pos h2]
  exact (body_ack g h l _ w0 w hI hP hne hB (by show (k : Int) = 2; omega)).mono fun e w' hp => BPost.bare hp (NoLists.bind fun _ => NoLists.bind fun _ => NoLists.ite (NoLists.endF hz) NoLists.none)
 rw [if_neg h2]
 by_cases h3 : k = 3
 ·
  rw [if_pos h3]
  exact (body_pub f hf g h l _ w0 w hI hP hne hB (by show (k : Int) = 3; omega) rfl).mono fun e w' hp => BPost.bare hp (NoLists.bind fun _ => NoLists.ite (NoLists.bind fun _ => NoLists.ite (NoLists.some hz) NoLists.none) (NoLists.ite (NoLists.some hz) NoLists.none))
 rw [if_neg h3]
 by_cases h4 : k = 4 ∨ k = 5 ∨ k = 6 ∨ k = 7 ∨ k = 11
 ·
  rw [if_pos h4]
  exact (body_id g h l _ w0 w hI hP hne hB (by show (k : Int) = 4 ∨ (k : Int) = 5 ∨ (k : Int) = 6 ∨ (k : Int) = 7 ∨ (k : Int) = 11; omega)).mono fun e w' hp => BPost.bare hp (NoLists.bind fun _ => NoLists.endF hz)
 rw [if_neg h4]
 by_cases h8 : k = 8
 ·
  rw [if_pos h8]
  exact (body_sub8 g h l _ w0 w hI hP hne hB hsz rfl rfl (by show (k : Int) = 8; omega)).mono fun e w' hp => BPost.many hp
 rw [if_neg h8]
 by_cases h10 : k = 10
 ·
  rw [if_pos h10]
  exact (body_sub10 g h l _ w0 w hI hP hne hB hsz rfl rfl (by show (k : Int) = 10; omega)).mono fun e w' hp => BPost.many hp
 rw [if_neg h10]
 by_cases h9 : k = 9
 ·
  rw [if_pos h9]
  exact (body_sub9 g h l _ w0 w hI hP hne hB hsz rfl rfl (by show (k : Int) = 9; omega)).mono fun e w' hp => BPost.many hp
 rw [if_neg h9]
 exact (body_bare g h l _ w0 w hI hP hne hB (by show (k : Int) = 12 ∨ (k : Int) = 13 ∨ (k : Int) = 14; omega)).mono fun e w' hp => BPost.bare hp (NoLists.endF hz)
def flagsF (k f : Nat) : Bool :=
 if k = 3 then decide (f / 2 % 4 ≠ 3) && (decide (0 < f / 2 % 4) || decide (f / 8 % 2 = 0))
 else if k = 6 ∨ k = 8 ∨ k = 10 then decide (f = 2)
 else decide (1 ≤ k) && decide (k ≤ 14) && decide (f = 0)
theorem flags3 (f : Nat) (hf : f < 16) (w : World) : Calls Tryz.prog 97 #[.int .i64 3, .int .i64 (f : Int)] w fun e w' => e = .returned (.bool (flagsF 3 f)) ∧ w' = w := by
 have hq := qos_bits f hf
 have hb : bits .and .i64 (f : Int) 8 = ((f / 8 % 2 * 8 : Nat) : Int) := by
  have : ∀ x : Fin 16, bits .and .i64 (x.val : Int) 8 = ((x.val / 8 % 2 * 8 : Nat) : Int) := by decide +kernel
  exact this ⟨f, hf⟩
 have hF : flagsF 3 f = ((((f / 2 % 4 : Nat) : Int) != 3) && (decide ((0 : Int) < ((f / 2 % 4 : Nat) : Int)) || (((f / 8 % 2 * 8 : Nat) : Int) == 0))) := by
  have : ∀ x : Fin 16, flagsF 3 x.val = ((((x.val / 2 % 4 : Nat) : Int) != 3) && (decide ((0 : Int) < ((x.val / 2 % 4 : Nat) : Int)) || (((x.val / 8 % 2 * 8 : Nat) : Int) == 0))) := by decide +kernel
  exact this ⟨f, hf⟩
 rw [hF]
 obtain ⟨m, hm⟩ : ∃ m : Int, m = ((f / 2 % 4 : Nat) : Int) := ⟨_, rfl⟩
 obtain ⟨b, hbb⟩ : ∃ b : Int, b = ((f / 8 % 2 * 8 : Nat) : Int) := ⟨_, rfl⟩
 rw [← hm] at hq ⊢
 rw [← hbb] at hb ⊢
 clear hm hbb hF
 obtain ⟨x, hx⟩ : ∃ x, x = (m != 3) := ⟨_, rfl⟩
 obtain ⟨y, hy⟩ : ∃ y, y = decide (0 < m) := ⟨_, rfl⟩
 obtain ⟨z, hz⟩ : ∃ z, z = (b == 0) := ⟨_, rfl⟩
 rw [← hx, ← hy, ← hz]
 have h1 := hx.symm
 have h2 := hy.symm
 have h3 := hz.symm
 clear hx hy hz
 cases x
 all_goals cases y
 all_goals cases z
 all_goals go_enter Tryz.func97, Tryz.ntmps97
 all_goals go_wp2
 all_goals go_ret
 all_goals exact ⟨rfl, rfl⟩
theorem flags_calls (k f : Nat) (hk : k < 16) (hf : f < 16) (w : World) : Calls Tryz.prog 97 #[.int .i64 (k : Int), .int .i64 (f : Int)] w fun e w' => e = .returned (.bool (flagsF k f)) ∧ w' = w := by
 by_cases h3 : k = 3
 ·
  subst h3; exact flags3 f hf w
 by_cases h6 : k = 6 ∨ k = 8 ∨ k = 10
 ·
  have hF : flagsF k f = ((f : Int) == 2) := by
   unfold flagsF; rw [if_neg h3, if_pos h6]
   rw [Bool.eq_iff_iff, decide_eq_true_iff, beq_iff_eq]; omega
  rw [hF]
  clear hF h3
  rcases h6 with rfl | rfl | rfl
  all_goals go_enter Tryz.func97, Tryz.ntmps97
  all_goals go_wp2
  all_goals go_ret
  all_goals exact ⟨rfl, rfl⟩
 ·
  have hF : flagsF k f = (decide ((1 : Int) ≤ k) && decide ((k : Int) ≤ 14) && ((f : Int) == 0)) := by
   unfold flagsF; rw [if_neg h3, if_neg h6]
   rw [Bool.eq_iff_iff]; simp; omega
  have n3 : ((k : Int) == 3) = false := beq_eq_false_iff_ne.2 (by omega)
  have n6 : ((k : Int) == 6) = false := beq_eq_false_iff_ne.2 (by omega)
  have n8 : ((k : Int) == 8) = false := beq_eq_false_iff_ne.2 (by omega)
  have n10 : ((k : Int) == 10) = false := beq_eq_false_iff_ne.2 (by omega)
  rw [hF]
  clear hF h3 h6 hk hf
  by_cases a : 1 ≤ k
  ·
   have a1 : decide ((1 : Int) ≤ k) = true := decide_eq_true (by omega)
   have a2 : decide (1 ≤ k) = true := decide_eq_true a
   by_cases b : k ≤ 14
   ·
    have b1 : decide ((k : Int) ≤ 14) = true := decide_eq_true (by omega)
    have b2 : decide (k ≤ 14) = true := decide_eq_true b
    rw [a1, b1]
    clear a b
    go_enter Tryz.func97, Tryz.ntmps97
    go_wp2
    go_ret
    exact ⟨rfl, rfl⟩
   ·
    have b1 : decide ((k : Int) ≤ 14) = false := decide_eq_false (by omega)
    have b2 : decide (k ≤ 14) = false := decide_eq_false b
    rw [a1, b1]
    clear a b
    go_enter Tryz.func97, Tryz.ntmps97
    go_wp2
    go_ret
    exact ⟨rfl, rfl⟩
  ·
   have a1 : decide ((1 : Int) ≤ k) = false := decide_eq_false (by omega)
   have a2 : decide (1 ≤ k) = false := decide_eq_false a
   rw [a1]
   clear a
   go_enter Tryz.func97, Tryz.ntmps97
   go_wp2
   go_ret
   exact ⟨rfl, rfl⟩
end Go.Proofs.YtednegmjjjdinaaGreatDoor.Ext
namespace Go.Proofs.YtednegmjjjdinaaGreatDoor.Ext
open Go.RowKit Go.Proofs.YtednegmjjjdinaaGreatDoorW.PrintWords Go.Proofs.YtednegmjjjdinaaGreatDoorW.PrintLast Go.Proofs.YtednegmjjjdinaaGreatDoorW.PrintMore
set_option linter.unusedVariables false
set_option linter.unusedSimpArgs false
namespace Trio
variable {w0 W W1 : World} {h n e : Nat} {q q' : Pk} {x y : Int}
theorem cn (t : Trio w0 W h n e q x y) : W.cell? ⟨n, 0, none⟩ = some (.int .i64 x) := (bqc t.num 0).trans rfl
theorem zn (t : Trio w0 W h n e q x y) : W.frozen? ⟨n, 0, none⟩ = false := blk_frozen t.num 0
theorem ce (t : Trio w0 W h n e q x y) : W.cell? ⟨e, 0, none⟩ = some (.int .i64 y) := (bqc t.err 0).trans rfl
theorem ze (t : Trio w0 W h n e q x y) : W.frozen? ⟨e, 0, none⟩ = false := blk_frozen t.err 0
end Trio
inductive NR where
 | more
 | bad
 | ok (q : Pkt) (n : Nat)
def nextF : List UInt8 → NR
 | [] => .more
 | b :: r =>
  if flagsF (b.toNat / 16) (b.toNat % 16) = true then
   match lenF r with
   | none => .bad
   | some (size, wide) =>
    if wide = 0 then .more else if r.length < wide + size then .more else
    match bodyF (b.toNat / 16) (b.toNat % 16) ((r.drop wide).take size) with
    | none => .bad
    | some q => .ok q (1 + wide + size)
  else .bad
def NPost (w : World) (o : NR) (e : Ending) (w' : World) : Prop :=
 match o with
 | .more => e = .returned (.tuple #[.agg (pk0 0 0).cells, .int .i64 0, .int .i64 41]) ∧ Below w.heap.size w w'
 | .bad => e = .returned (.tuple #[.agg (pk0 0 0).cells, .int .i64 0, .int .i64 40]) ∧ Below w.heap.size w w'
 | .ok q n => ∃ vN vC, e = .returned (.tuple #[.agg (q.pk vN vC).cells, .int .i64 n, .int .i64 0]) ∧ Kd.string.R 9 w' w.heap.size (fun _ => True) vN q.names ∧ (Kd.int .i64).R 3 w' w.heap.size (fun _ => True) vC q.codes ∧ Below w.heap.size w w'
def next0 (w : World) : World := ((w.alloc (.cells (pk0 0 0).cells 86)).alloc (.cells #[.int .i64 0] 3)).alloc (.cells #[.int .i64 0] 24)
theorem next0_trio (w : World) : Trio w (next0 w) w.heap.size (w.heap.size + 1) (w.heap.size + 2) (pk0 0 0) 0 0 :=
 ⟨bka (bka (heap_alloc_new w _) _) _, bka (by simpa using heap_alloc_new (w.alloc (.cells (pk0 0 0).cells 86)) (.cells #[.int .i64 0] 3)) _, by have := heap_alloc_new ((w.alloc (.cells (pk0 0 0).cells 86)).alloc (.cells #[.int .i64 0] 3)) (.cells #[.int .i64 0] 24); simp only [World.size_alloc] at this; exact this,
  bal (bal (bal (Below.refl _ _) _) _) _, Nat.le_refl _, by omega, by omega, by omega, by omega, by omega⟩
theorem next_results {w0 W : World} {h n e : Nat} {q : Pk} {x y : Int} {tmps : Array Value} (h2 : tmps.getD 2 undef = .pointer (some ⟨h, 0, none⟩)) (h3 : tmps.getD 3 undef = .pointer (some ⟨n, 0, none⟩)) (h4 : tmps.getD 4 undef = .pointer (some ⟨e, 0, none⟩)) (T : Trio w0 W h n e q x y) :
  (results Tryz.f43 tmps).run Tryz.prog W = .ok (.tuple #[.agg q.cells, .int .i64 x, .int .i64 y]) W := by
 have h1 := run_loadVar_row (P := Tryz.prog) W h 86 86 q.cells (0, 0) _ T.pk Tryz.underlying86 rfl (by kernel_rfl)
 have cn := T.cn
 have ce := T.ce
 have h2' : tmps[2]?.getD undef = .pointer (some ⟨h, 0, none⟩) := by simpa using h2
 have h3' : tmps[3]?.getD undef = .pointer (some ⟨n, 0, none⟩) := by simpa using h3
 have h4' : tmps[4]?.getD undef = .pointer (some ⟨e, 0, none⟩) := by simpa using h4
 have l3 : (loadVar 3 ⟨n, 0, none⟩).run Tryz.prog W = .ok (.int .i64 x) W := by simp [go_sem, cn]
 have l4 : (loadVar 24 ⟨e, 0, none⟩).run Tryz.prog W = .ok (.int .i64 y) W := by simp [go_sem, ce]
 simp [results, Tryz.results43, h2', h3', h4', asAddr, h1, l3, l4]
theorem next0_at (w : World) : ∃ (h n e : Nat) (W : World), w.heap.size = h ∧ h + 1 = n ∧ n + 1 = e ∧ next0 w = W ∧ Aside0 (Trio w W h n e (pk0 0 0) 0 0) := ⟨_, _, _, _, rfl, rfl, rfl, rfl, ⟨next0_trio w⟩⟩
theorem next_nil (w : World) : Calls Tryz.prog 43 #[.string ⟨#[]⟩] w (NPost w .more) := by
 have hmf : ∀ (fn : Fn) (first cap : Array Value) (w : World), (Instr.makeFunc fn first cap).run Tryz.prog w = .ok (.func fn first cap) w := fun _ _ _ _ => rfl
 obtain ⟨h, n, e, W, hh, hn, he, hW, HT⟩ := next0_at w
 simp only [next0, pk0, Pk.cells] at hW
 go_enter_defers Tryz.func43, Tryz.ntmps43
 go_wp2_with ((with_reducible refine gate_store (t := 86) (p := 2) rfl ?_); refine wpList_store_blk 86 (.tmp 2) (.tmp 13) rfl rfl rfl (g := h) (e := 86) (.agg #[.int .i64 0, .int .i64 0, .int .i64 0, .int .i64 0, .string ⟨#[]⟩, .string ⟨#[]⟩, .int .i64 0, .bool false, .string ⟨#[]⟩, .bool false, .slice none 0 0, .slice none 0 0]) [.int .i64 0, .int .i64 0, .int .i64 0, .int .i64 0, .string ⟨#[]⟩, .string ⟨#[]⟩, .int .i64 0, .bool false, .string ⟨#[]⟩, .bool false, .slice none 0 0, .slice none 0 0] rfl rfl rfl HT.out.pk (by kernel_rfl) rfl (by simp [Value.oneCell']) ?_; intro W1 HW; have HT2 := Amk (HT.out.wrote (q' := pk0 0 0) HW); clear HW; have cn := HT2.out.cn; have zn := HT2.out.zn; have ce := HT2.out.ce; have ze := HT2.out.ze; have hne := HT2.out.ne; have hne2 := Ne.symm hne)
 refine leaves_cons (f := 95) (args := #[.pointer (some ⟨h, 0, none⟩), .pointer (some ⟨n, 0, none⟩), .pointer (some ⟨e, 0, none⟩)]) (by simp) (by simp [go_sem]) ?_
 refine (idle95 h n e _).mono ?_
 rintro e' u' w'' ⟨rfl, rfl, rfl⟩
 exact ⟨_, next_results rfl rfl rfl ((HT2.out.setN 0).setE 41), rfl, ((HT2.out.setN 0).setE 41).bel⟩
theorem next_kf (b : UInt8) : ∃ k f : Nat, wrap64 ((b.toNat : Int) / 16) = (k : Int) ∧ wrap64 (bits .and .u8 (b.toNat : Int) 15) = (f : Int) ∧ Aside0 (k = b.toNat / 16 ∧ f = b.toNat % 16 ∧ k < 16 ∧ f < 16) := by
 have h1 := b.toNat_lt
 have hb : bits .and .u8 (b.toNat : Int) 15 = ((b.toNat % 16 : Nat) : Int) := by
  have : ∀ x : Fin 256, bits .and .u8 (x.val : Int) 15 = ((x.val % 16 : Nat) : Int) := by decide +kernel
  exact this ⟨b.toNat, by omega⟩
 exact ⟨_, _, by unfold wrap64; omega, by rw [hb]; unfold wrap64; omega, ⟨rfl, rfl, by omega, by omega⟩⟩
theorem lenF_le {l : List UInt8} {n k : Nat} (h : lenF l = some (n, k)) : n ≤ 16384 ∧ k ≤ 3 ∧ k ≤ l.length := by
 unfold lenF at h
 repeat' split at h
 all_goals (try simp only [Option.some.injEq, Prod.mk.injEq, reduceCtorEq] at h)
 all_goals (try obtain ⟨rfl, rfl⟩ := h)
 all_goals (try simp only [List.length_cons])
 all_goals omega
theorem next_flag (b : UInt8) (r : List UInt8) (w : World) (hF : flagsF (b.toNat / 16) (b.toNat % 16) = false) : Calls Tryz.prog 43 #[.string ⟨(b :: r).toArray⟩] w (NPost w .bad) := by
 have hmf : ∀ (fn : Fn) (first cap : Array Value) (w : World), (Instr.makeFunc fn first cap).run Tryz.prog w = .ok (.func fn first cap) w := fun _ _ _ _ => rfl
 obtain ⟨h, n, e, W, hh, hn, he, hW, HT⟩ := next0_at w
 simp only [next0, pk0, Pk.cells] at hW
 obtain ⟨k, f, hk, hf, HKF⟩ := next_kf b
 have hs := size_l (b :: r)
 simp only [List.length_cons] at hs
 have hl : (b :: r).isEmpty = false := rfl
 have e0 : ∀ h : 0 < (⟨(b :: r).toArray⟩ : ByteArray).size, (⟨(b :: r).toArray⟩ : ByteArray)[0]'h = b := fun _ => rfl
 have hx : (⟨(b :: r).toArray⟩ : ByteArray).extract 1 (r.length + 1) = ⟨r.toArray⟩ := (drop_ext (b :: r) 1)
 have HFL : Aside0 (flagsF k f = false) := ⟨by rw [HKF.out.1, HKF.out.2.1]; exact hF⟩
 clear hF
 go_enter_defers Tryz.func43, Tryz.ntmps43
 go_upto_region 4 with (fail)
 go_region
 go_wp2_with (first | (go_at_call 97; refine (flags_calls k f HKF.out.2.2.1 HKF.out.2.2.2 _).mono ?_; rintro e1 w1 ⟨rfl, rfl⟩; rw [HFL.out]) | (go_at_call 96; refine (unless_no _).mono ?_; rintro e1 w1 ⟨rfl, rfl⟩))
 refine leaves_cons (f := 95) (args := #[.pointer (some ⟨h, 0, none⟩), .pointer (some ⟨n, 0, none⟩), .pointer (some ⟨e, 0, none⟩)]) (by simp) (by simp [go_sem]) ?_
 refine (catch95 h n e w _ [] _ _ _ (HT.out.drew)).mono ?_
 rintro e' u' w'' ⟨rfl, rfl, HT3⟩
 exact ⟨_, next_results rfl rfl rfl HT3, rfl, HT3.bel⟩
theorem next_len (b : UInt8) (r : List UInt8) (w : World) (hF : flagsF (b.toNat / 16) (b.toNat % 16) = true) (hL : lenF r = none) : Calls Tryz.prog 43 #[.string ⟨(b :: r).toArray⟩] w (NPost w .bad) := by
 have hmf : ∀ (fn : Fn) (first cap : Array Value) (w : World), (Instr.makeFunc fn first cap).run Tryz.prog w = .ok (.func fn first cap) w := fun _ _ _ _ => rfl
 obtain ⟨h, n, e, W, hh, hn, he, hW, HT⟩ := next0_at w
 simp only [next0, pk0, Pk.cells] at hW
 obtain ⟨k, f, hk, hf, HKF⟩ := next_kf b
 have hs := size_l (b :: r)
 simp only [List.length_cons] at hs
 have hl : (b :: r).isEmpty = false := rfl
 have e0 : ∀ h : 0 < (⟨(b :: r).toArray⟩ : ByteArray).size, (⟨(b :: r).toArray⟩ : ByteArray)[0]'h = b := fun _ => rfl
 have hx : (⟨(b :: r).toArray⟩ : ByteArray).extract 1 (r.length + 1) = ⟨r.toArray⟩ := (drop_ext (b :: r) 1)
 have HFL : Aside0 (flagsF k f = true) := ⟨by rw [HKF.out.1, HKF.out.2.1]; exact hF⟩
 have HLN := Amk hL
 clear hF hL
 go_enter_defers Tryz.func43, Tryz.ntmps43
 go_upto_region 4 with (fail)
 go_region
 go_upto_region 6 with (first | (go_at_call 97; refine (flags_calls k f HKF.out.2.2.1 HKF.out.2.2.2 _).mono ?_; rintro e1 w1 ⟨rfl, rfl⟩; rw [HFL.out]) | (go_at_call 96; refine (unless_yes _).mono ?_; rintro e1 w1 ⟨rfl, rfl⟩))
 go_wp2_with (go_at_call 98; have HL := length_calls r W.drew; rw [HLN.out] at HL; refine HL.mono ?_; rintro e1 w1 ⟨rfl, rfl⟩)
 refine leaves_cons (f := 95) (args := #[.pointer (some ⟨h, 0, none⟩), .pointer (some ⟨n, 0, none⟩), .pointer (some ⟨e, 0, none⟩)]) (by simp) (by simp [go_sem]) ?_
 refine (catch95 h n e w _ [] _ _ _ (HT.out.drew)).mono ?_
 rintro e' u' w'' ⟨rfl, rfl, HT3⟩
 exact ⟨_, next_results rfl rfl rfl HT3, rfl, HT3.bel⟩
theorem next_more0 (b : UInt8) (r : List UInt8) (w : World) (hF : flagsF (b.toNat / 16) (b.toNat % 16) = true) (size : Nat) (hL : lenF r = some (size, 0)) : Calls Tryz.prog 43 #[.string ⟨(b :: r).toArray⟩] w (NPost w .more) := by
 have hmf : ∀ (fn : Fn) (first cap : Array Value) (w : World), (Instr.makeFunc fn first cap).run Tryz.prog w = .ok (.func fn first cap) w := fun _ _ _ _ => rfl
 obtain ⟨h, n, e, W, hh, hn, he, hW, HT⟩ := next0_at w
 simp only [next0, pk0, Pk.cells] at hW
 obtain ⟨k, f, hk, hf, HKF⟩ := next_kf b
 have hs := size_l (b :: r)
 simp only [List.length_cons] at hs
 have hl : (b :: r).isEmpty = false := rfl
 have e0 : ∀ h : 0 < (⟨(b :: r).toArray⟩ : ByteArray).size, (⟨(b :: r).toArray⟩ : ByteArray)[0]'h = b := fun _ => rfl
 have hx : (⟨(b :: r).toArray⟩ : ByteArray).extract 1 (r.length + 1) = ⟨r.toArray⟩ := (drop_ext (b :: r) 1)
 have HFL : Aside0 (flagsF k f = true) := ⟨by rw [HKF.out.1, HKF.out.2.1]; exact hF⟩
 have HLN := Amk hL
 clear hF hL
 go_enter_defers Tryz.func43, Tryz.ntmps43
 go_upto_region 4 with (fail)
 go_region
 go_upto_region 6 with (first | (go_at_call 97; refine (flags_calls k f HKF.out.2.2.1 HKF.out.2.2.2 _).mono ?_; rintro e1 w1 ⟨rfl, rfl⟩; rw [HFL.out]) | (go_at_call 96; refine (unless_yes _).mono ?_; rintro e1 w1 ⟨rfl, rfl⟩))
 go_wp2_with (first | (go_at_call 98; have HL := length_calls r W.drew; rw [HLN.out] at HL; refine HL.mono ?_; rintro e1 w1 ⟨rfl, rfl⟩) | ((with_reducible refine gate_store (t := 86) (p := 2) rfl ?_); refine wpList_store_blk 86 (.tmp 2) (.tmp 43) rfl rfl rfl (g := h) (e := 86) (.agg #[.int .i64 0, .int .i64 0, .int .i64 0, .int .i64 0, .string ⟨#[]⟩, .string ⟨#[]⟩, .int .i64 0, .bool false, .string ⟨#[]⟩, .bool false, .slice none 0 0, .slice none 0 0]) [.int .i64 0, .int .i64 0, .int .i64 0, .int .i64 0, .string ⟨#[]⟩, .string ⟨#[]⟩, .int .i64 0, .bool false, .string ⟨#[]⟩, .bool false, .slice none 0 0, .slice none 0 0] rfl rfl rfl HT.out.drew.pk (by kernel_rfl) rfl (by simp [Value.oneCell']) ?_; intro W1 HW; have HT2 := Amk (HT.out.drew.wrote (q' := pk0 0 0) HW); clear HW; have cn := HT2.out.cn; have zn := HT2.out.zn; have ce := HT2.out.ce; have ze := HT2.out.ze; have hne := HT2.out.ne; have hne2 := Ne.symm hne))
 refine leaves_cons (f := 95) (args := #[.pointer (some ⟨h, 0, none⟩), .pointer (some ⟨n, 0, none⟩), .pointer (some ⟨e, 0, none⟩)]) (by simp) (by simp [go_sem]) ?_
 refine (idle95 h n e _).mono ?_
 rintro e' u' w'' ⟨rfl, rfl, rfl⟩
 exact ⟨_, next_results rfl rfl rfl ((HT2.out.setN 0).setE 41), rfl, ((HT2.out.setN 0).setE 41).bel⟩
theorem next_more1 (b : UInt8) (r : List UInt8) (w : World) (hF : flagsF (b.toNat / 16) (b.toNat % 16) = true) (size wide : Nat) (hL : lenF r = some (size, wide)) (hw : wide ≠ 0) (hM : r.length < wide + size) : Calls Tryz.prog 43 #[.string ⟨(b :: r).toArray⟩] w (NPost w .more) := by
 have hmf : ∀ (fn : Fn) (first cap : Array Value) (w : World), (Instr.makeFunc fn first cap).run Tryz.prog w = .ok (.func fn first cap) w := fun _ _ _ _ => rfl
 obtain ⟨h, n, e, W, hh, hn, he, hW, HT⟩ := next0_at w
 simp only [next0, pk0, Pk.cells] at hW
 obtain ⟨k, f, hk, hf, HKF⟩ := next_kf b
 have hs := size_l (b :: r)
 simp only [List.length_cons] at hs
 have hl : (b :: r).isEmpty = false := rfl
 have e0 : ∀ h : 0 < (⟨(b :: r).toArray⟩ : ByteArray).size, (⟨(b :: r).toArray⟩ : ByteArray)[0]'h = b := fun _ => rfl
 have hx : (⟨(b :: r).toArray⟩ : ByteArray).extract 1 (r.length + 1) = ⟨r.toArray⟩ := (drop_ext (b :: r) 1)
 have HFL : Aside0 (flagsF k f = true) := ⟨by rw [HKF.out.1, HKF.out.2.1]; exact hF⟩
 have HLN := Amk hL
 obtain ⟨b1, b2, b3⟩ := lenF_le hL
 have d1 : ((wide : Int) == 0) = false := beq_eq_false_iff_ne.2 (by omega)
 have d2 : decide ((r.length : Int) + 1 < 1 + (wide : Int) + (size : Int)) = true := decide_eq_true (by omega)
 have HM := Amk (And.intro hw hM)
 clear hF hL hw hM b3
 go_enter_defers Tryz.func43, Tryz.ntmps43
 go_upto_region 4 with (fail)
 go_region
 go_upto_region 6 with (first | (go_at_call 97; refine (flags_calls k f HKF.out.2.2.1 HKF.out.2.2.2 _).mono ?_; rintro e1 w1 ⟨rfl, rfl⟩; rw [HFL.out]) | (go_at_call 96; refine (unless_yes _).mono ?_; rintro e1 w1 ⟨rfl, rfl⟩))
 go_wp2_with (first | (go_at_call 98; have HL := length_calls r W.drew; rw [HLN.out] at HL; refine HL.mono ?_; rintro e1 w1 ⟨rfl, rfl⟩) | ((with_reducible refine gate_store (t := 86) (p := 2) rfl ?_); refine wpList_store_blk 86 (.tmp 2) (.tmp 43) rfl rfl rfl (g := h) (e := 86) (.agg #[.int .i64 0, .int .i64 0, .int .i64 0, .int .i64 0, .string ⟨#[]⟩, .string ⟨#[]⟩, .int .i64 0, .bool false, .string ⟨#[]⟩, .bool false, .slice none 0 0, .slice none 0 0]) [.int .i64 0, .int .i64 0, .int .i64 0, .int .i64 0, .string ⟨#[]⟩, .string ⟨#[]⟩, .int .i64 0, .bool false, .string ⟨#[]⟩, .bool false, .slice none 0 0, .slice none 0 0] rfl rfl rfl HT.out.drew.pk (by kernel_rfl) rfl (by simp [Value.oneCell']) ?_; intro W1 HW; have HT2 := Amk (HT.out.drew.wrote (q' := pk0 0 0) HW); clear HW; have cn := HT2.out.cn; have zn := HT2.out.zn; have ce := HT2.out.ce; have ze := HT2.out.ze; have hne := HT2.out.ne; have hne2 := Ne.symm hne))
 refine leaves_cons (f := 95) (args := #[.pointer (some ⟨h, 0, none⟩), .pointer (some ⟨n, 0, none⟩), .pointer (some ⟨e, 0, none⟩)]) (by simp) (by simp [go_sem]) ?_
 refine (idle95 h n e _).mono ?_
 rintro e' u' w'' ⟨rfl, rfl, rfl⟩
 exact ⟨_, next_results rfl rfl rfl ((HT2.out.setN 0).setE 41), rfl, ((HT2.out.setN 0).setE 41).bel⟩
theorem mid_ext (b : UInt8) (r : List UInt8) (wide size : Nat) : (⟨(b :: r).toArray⟩ : ByteArray).extract (1 + wide) (1 + wide + size) = ⟨((r.drop wide).take size).toArray⟩ := by
 apply ByteArray.ext; apply Array.ext'
 have h1 : ((b :: r).take (wide + 1 + size)).drop (wide + 1) = (r.take (wide + size)).drop wide := by rw [show wide + 1 + size = (wide + size) + 1 by omega, List.take_succ_cons, List.drop_succ_cons]
 simp [List.take_drop, Nat.add_comm 1 wide, h1]
theorem R_past {α : Type} {d : Kd α} {e base B0 : Nat} {v : Value} {xs : List α} {w W1 : World} (h : d.R e w base (fun _ => True) v xs) (hm : ∀ k, base ≤ k → k < w.heap.size → W1.heap[k]? = w.heap[k]?) (hb : B0 ≤ base) : d.R e W1 B0 (fun _ => True) v xs :=
 Kd.R_lower (Kd.R_mono (Kd.R_step (Kd.R_bound h) (fun k hk hlt => hm k hk.2.1 hlt)) (fun _ _ => trivial)) hb
theorem flagsF_k {k f : Nat} (h : flagsF k f = true) : 1 ≤ k ∧ k ≤ 14 := by
 unfold flagsF at h
 split at h
 ·
  omega
 split at h
 ·
  omega
 ·
  simp only [Bool.and_eq_true, decide_eq_true_eq] at h; omega
theorem next_body (b : UInt8) (r : List UInt8) (w : World) (hF : flagsF (b.toNat / 16) (b.toNat % 16) = true) (size wide : Nat) (hL : lenF r = some (size, wide)) (hw : wide ≠ 0) (hM : ¬ r.length < wide + size) (l9 : List UInt8) (hl9 : (r.drop wide).take size = l9) (hb : bodyF (b.toNat / 16) (b.toNat % 16) l9 = none) : Calls Tryz.prog 43 #[.string ⟨(b :: r).toArray⟩] w (NPost w .bad) := by
 have hmf : ∀ (fn : Fn) (first cap : Array Value) (w : World), (Instr.makeFunc fn first cap).run Tryz.prog w = .ok (.func fn first cap) w := fun _ _ _ _ => rfl
 obtain ⟨h, n, e, W, hh, hn, he, hW, HT⟩ := next0_at w
 simp only [next0, pk0, Pk.cells] at hW
 obtain ⟨k, f, hk, hf, HKF⟩ := next_kf b
 have hs := size_l (b :: r)
 simp only [List.length_cons] at hs
 have hl : (b :: r).isEmpty = false := rfl
 have e0 : ∀ h : 0 < (⟨(b :: r).toArray⟩ : ByteArray).size, (⟨(b :: r).toArray⟩ : ByteArray)[0]'h = b := fun _ => rfl
 have hx : (⟨(b :: r).toArray⟩ : ByteArray).extract 1 (r.length + 1) = ⟨r.toArray⟩ := (drop_ext (b :: r) 1)
 have HLN := Amk hL
 obtain ⟨b1, b2, b3⟩ := lenF_le hL
 have d1 : ((wide : Int) == 0) = false := beq_eq_false_iff_ne.2 (by omega)
 have d2 : decide ((r.length : Int) + 1 < 1 + (wide : Int) + (size : Int)) = false := decide_eq_false (by omega)
 have d3 : 1 + wide + size ≤ r.length + 1 := by omega
 have hx2 := mid_ext b r wide size
 rw [hl9] at hx2
 have HFL : Aside0 (flagsF k f = true) := ⟨by rw [HKF.out.1, HKF.out.2.1]; exact hF⟩
 have HM := Amk (And.intro hw hM)
 clear hF hL hw hM b3 hl9
 have HBF : Aside0 (bodyF k f l9 = none) := ⟨by rw [HKF.out.1, HKF.out.2.1]; exact hb⟩
 clear hb
 go_enter_defers Tryz.func43, Tryz.ntmps43
 go_upto_region 4 with (fail)
 go_region
 go_upto_region 6 with (first | (go_at_call 97; refine (flags_calls k f HKF.out.2.2.1 HKF.out.2.2.2 _).mono ?_; rintro e1 w1 ⟨rfl, rfl⟩; rw [HFL.out]) | (go_at_call 96; refine (unless_yes _).mono ?_; rintro e1 w1 ⟨rfl, rfl⟩))
 go_wp2_with (first | (go_at_call 98; have HL := length_calls r W.drew; rw [HLN.out] at HL; refine HL.mono ?_; rintro e1 w1 ⟨rfl, rfl⟩) | ((with_reducible refine gate_store (t := 86) (p := 2) rfl ?_); refine wpList_store_blk 86 (.tmp 2) (.tmp 46) rfl rfl rfl (g := h) (e := 86) (.agg #[.int .i64 (k : Int), .int .i64 (f : Int), .int .i64 0, .int .i64 0, .string ⟨#[]⟩, .string ⟨#[]⟩, .int .i64 0, .bool false, .string ⟨#[]⟩, .bool false, .slice none 0 0, .slice none 0 0]) [.int .i64 (k : Int), .int .i64 (f : Int), .int .i64 0, .int .i64 0, .string ⟨#[]⟩, .string ⟨#[]⟩, .int .i64 0, .bool false, .string ⟨#[]⟩, .bool false, .slice none 0 0, .slice none 0 0] rfl rfl rfl HT.out.drew.pk (by kernel_rfl) rfl (by simp [Value.oneCell']) ?_; intro W1 HW; have HT2 := Amk (HT.out.drew.wrote (q' := pk0 k f) HW); clear HW; have cn := HT2.out.cn; have zn := HT2.out.zn; have ce := HT2.out.ce; have ze := HT2.out.ze; have hne := HT2.out.ne; have hne2 := Ne.symm hne) | (go_at_call 99; have HC := body_calls W1.heap.size h k f l9 w (W1.alloc (.cells #[.string ⟨l9.toArray⟩] 146)) ⟨heap_alloc_new _ _, HT2.out.sz⟩ ⟨bka HT2.out.pk _, HT2.out.bh⟩ (Ne.symm (Nat.ne_of_lt (blk_lt HT2.out.pk))) (bal HT2.out.bel _) (by rw [World.size_alloc]; exact Nat.le_succ_of_le HT2.out.sz) (flagsF_k HFL.out).1 (flagsF_k HFL.out).2 HKF.out.2.2.2; rw [HBF.out] at HC; refine HC.mono ?_; clear HC; rintro e1 w1 ⟨rfl, hb1, hk1, q1, hq1⟩; have HT3 := Amk ((HT2.out.alloc _).kept hk1 hq1.1 hb1 (fun hx => hx.elim (fun e => absurd (blk_lt HT2.out.num) (by omega)) (fun e => HT2.out.hn e.symm)) (fun hx => hx.elim (fun e => absurd (blk_lt HT2.out.err) (by omega)) (fun e => HT2.out.he e.symm))); clear hb1 hk1 hq1))
 refine leaves_cons (f := 95) (args := #[.pointer (some ⟨h, 0, none⟩), .pointer (some ⟨n, 0, none⟩), .pointer (some ⟨e, 0, none⟩)]) (by simp) (by simp [go_sem]) ?_
 refine (catch95 h n e w _ [] _ _ _ (HT3.out)).mono ?_
 rintro e' u' w'' ⟨rfl, rfl, HT3⟩
 exact ⟨_, next_results rfl rfl rfl HT3, rfl, HT3.bel⟩
theorem next_ok (b : UInt8) (r : List UInt8) (w : World) (hF : flagsF (b.toNat / 16) (b.toNat % 16) = true) (size wide : Nat) (hL : lenF r = some (size, wide)) (hw : wide ≠ 0) (hM : ¬ r.length < wide + size) (l9 : List UInt8) (hl9 : (r.drop wide).take size = l9) (q : Pkt) (hb : bodyF (b.toNat / 16) (b.toNat % 16) l9 = some q) : Calls Tryz.prog 43 #[.string ⟨(b :: r).toArray⟩] w (NPost w (.ok q (1 + wide + size))) := by
 have hmf : ∀ (fn : Fn) (first cap : Array Value) (w : World), (Instr.makeFunc fn first cap).run Tryz.prog w = .ok (.func fn first cap) w := fun _ _ _ _ => rfl
 obtain ⟨h, n, e, W, hh, hn, he, hW, HT⟩ := next0_at w
 simp only [next0, pk0, Pk.cells] at hW
 obtain ⟨k, f, hk, hf, HKF⟩ := next_kf b
 have hs := size_l (b :: r)
 simp only [List.length_cons] at hs
 have hl : (b :: r).isEmpty = false := rfl
 have e0 : ∀ h : 0 < (⟨(b :: r).toArray⟩ : ByteArray).size, (⟨(b :: r).toArray⟩ : ByteArray)[0]'h = b := fun _ => rfl
 have hx : (⟨(b :: r).toArray⟩ : ByteArray).extract 1 (r.length + 1) = ⟨r.toArray⟩ := (drop_ext (b :: r) 1)
 have HLN := Amk hL
 obtain ⟨b1, b2, b3⟩ := lenF_le hL
 have d1 : ((wide : Int) == 0) = false := beq_eq_false_iff_ne.2 (by omega)
 have d2 : decide ((r.length : Int) + 1 < 1 + (wide : Int) + (size : Int)) = false := decide_eq_false (by omega)
 have d3 : 1 + wide + size ≤ r.length + 1 := by omega
 have hx2 := mid_ext b r wide size
 rw [hl9] at hx2
 have HFL : Aside0 (flagsF k f = true) := ⟨by rw [HKF.out.1, HKF.out.2.1]; exact hF⟩
 have HM := Amk (And.intro hw hM)
 clear hF hL hw hM b3 hl9
 have HBF : Aside0 (bodyF k f l9 = some q) := ⟨by rw [HKF.out.1, HKF.out.2.1]; exact hb⟩
 clear hb
 go_enter_defers Tryz.func43, Tryz.ntmps43
 go_upto_region 4 with (fail)
 go_region
 go_upto_region 6 with (first | (go_at_call 97; refine (flags_calls k f HKF.out.2.2.1 HKF.out.2.2.2 _).mono ?_; rintro e1 w1 ⟨rfl, rfl⟩; rw [HFL.out]) | (go_at_call 96; refine (unless_yes _).mono ?_; rintro e1 w1 ⟨rfl, rfl⟩))
 go_upto_region 12 with (first | (go_at_call 98; have HL := length_calls r W.drew; rw [HLN.out] at HL; refine HL.mono ?_; rintro e1 w1 ⟨rfl, rfl⟩) | ((with_reducible refine gate_store (t := 86) (p := 2) rfl ?_); refine wpList_store_blk 86 (.tmp 2) (.tmp 46) rfl rfl rfl (g := h) (e := 86) (.agg #[.int .i64 (k : Int), .int .i64 (f : Int), .int .i64 0, .int .i64 0, .string ⟨#[]⟩, .string ⟨#[]⟩, .int .i64 0, .bool false, .string ⟨#[]⟩, .bool false, .slice none 0 0, .slice none 0 0]) [.int .i64 (k : Int), .int .i64 (f : Int), .int .i64 0, .int .i64 0, .string ⟨#[]⟩, .string ⟨#[]⟩, .int .i64 0, .bool false, .string ⟨#[]⟩, .bool false, .slice none 0 0, .slice none 0 0] rfl rfl rfl HT.out.drew.pk (by kernel_rfl) rfl (by simp [Value.oneCell']) ?_; intro W1 HW; have HT2 := Amk (HT.out.drew.wrote (q' := pk0 k f) HW); clear HW; have cn := HT2.out.cn; have zn := HT2.out.zn; have ce := HT2.out.ce; have ze := HT2.out.ze; have hne := HT2.out.ne; have hne2 := Ne.symm hne) | (go_at_call 99; have HC := body_calls W1.heap.size h k f l9 w (W1.alloc (.cells #[.string ⟨l9.toArray⟩] 146)) ⟨heap_alloc_new _ _, HT2.out.sz⟩ ⟨bka HT2.out.pk _, HT2.out.bh⟩ (Ne.symm (Nat.ne_of_lt (blk_lt HT2.out.pk))) (bal HT2.out.bel _) (by rw [World.size_alloc]; exact Nat.le_succ_of_le HT2.out.sz) (flagsF_k HFL.out).1 (flagsF_k HFL.out).2 HKF.out.2.2.2; rw [HBF.out] at HC; refine HC.mono ?_; clear HC; rintro e1 w4 ⟨vN, vC, rfl, hq1, hrN, hrC, hb1, hk1⟩; obtain ⟨AN, cN, rfl⟩ := Kd.R_slice hrN; obtain ⟨AC, cC, rfl⟩ := Kd.R_slice hrC; have HT3 := Amk ((HT2.out.alloc _).kept hk1 hq1.1 hb1 (fun hx => hx.elim (fun e => absurd (blk_lt HT2.out.num) (by omega)) (fun e => HT2.out.hn e.symm)) (fun hx => hx.elim (fun e => absurd (blk_lt HT2.out.err) (by omega)) (fun e => HT2.out.he e.symm))); have HRN := Amk hrN; have HRC := Amk hrC; clear hb1 hk1 hq1 hrN hrC))
 clear cn zn ce ze hne hne2 HL
 have HBB : Aside0 (h < (W1.alloc (.cells #[.string ⟨l9.toArray⟩] 146)).heap.size ∧ n < (W1.alloc (.cells #[.string ⟨l9.toArray⟩] 146)).heap.size ∧ e < (W1.alloc (.cells #[.string ⟨l9.toArray⟩] 146)).heap.size ∧ w.heap.size ≤ (W1.alloc (.cells #[.string ⟨l9.toArray⟩] 146)).heap.size) := ⟨by
  have h1 := blk_lt HT2.out.pk; have h2 := blk_lt HT2.out.num; have h3 := blk_lt HT2.out.err; have h4 := HT2.out.sz
  rw [World.size_alloc]; omega⟩
 generalize (W1.alloc (.cells #[.string ⟨l9.toArray⟩] 146)).heap.size = B0 at *
 go_wp2_with (first | ((with_reducible refine gate_dst (N := 59) rfl ?_); refine wpList_load_row rfl 86 (.tmp 2) rfl h rfl 86 (q.pk (.slice AN q.names.length cN) (.slice AC q.codes.length cC)).cells (0, 0) _ HT3.out.pk Tryz.underlying86 rfl (by kernel_rfl) ?_) | ((with_reducible refine gate_store (t := 86) (p := 2) rfl ?_); refine wpList_store_blk 86 (.tmp 2) (.tmp 59) rfl rfl rfl (g := h) (e := 86) (.agg #[.int .i64 q.kind, .int .i64 q.flags, .int .i64 q.id, .int .i64 q.code, .string ⟨q.name.toArray⟩, .string ⟨q.text.toArray⟩, .int .i64 q.keep, .bool q.will, .string ⟨q.topic.toArray⟩, .bool q.clean, .slice AN q.names.length cN, .slice AC q.codes.length cC]) [.int .i64 q.kind, .int .i64 q.flags, .int .i64 q.id, .int .i64 q.code, .string ⟨q.name.toArray⟩, .string ⟨q.text.toArray⟩, .int .i64 q.keep, .bool q.will, .string ⟨q.topic.toArray⟩, .bool q.clean, .slice AN q.names.length cN, .slice AC q.codes.length cC] rfl rfl rfl HT3.out.pk (by kernel_rfl) rfl (by simp [Value.oneCell']) ?_; intro W5 HW; have HT5 := Amk (HT3.out.wrote (q' := q.pk (.slice AN q.names.length cN) (.slice AC q.codes.length cC)) HW); have HW5 := Amk HW; clear HW; have cn := HT5.out.cn; have zn := HT5.out.zn; have ce := HT5.out.ce; have ze := HT5.out.ze; have hne := HT5.out.ne; have hne2 := Ne.symm hne))
 refine leaves_cons (f := 95) (args := #[.pointer (some ⟨h, 0, none⟩), .pointer (some ⟨n, 0, none⟩), .pointer (some ⟨e, 0, none⟩)]) (by simp) (by simp [go_sem]) ?_
 refine (idle95 h n e _).mono ?_
 rintro e' u' w'' ⟨rfl, rfl, rfl⟩
 have HT4 := (HT5.out.setN (1 + wide + size)).setE 0
 have hm : ∀ k, B0 ≤ k → k < w4.heap.size → ((W5.setCell ⟨n, 0, none⟩ (.int .i64 (1 + wide + size))).setCell ⟨e, 0, none⟩ (.int .i64 0)).heap[k]? = w4.heap[k]? := fun k hk _ => by
  obtain ⟨x1, x2, x3, _⟩ := HBB.out
  exact (Below.heap_setCell _ ⟨e, 0, none⟩ _ k (by show k ≠ e; omega)).trans ((Below.heap_setCell _ ⟨n, 0, none⟩ _ k (by show k ≠ n; omega)).trans (HW5.out.far k (by omega)))
 exact ⟨_, next_results rfl rfl rfl HT4, _, _, rfl, R_past HRN.out hm HBB.out.2.2.2, R_past HRC.out hm HBB.out.2.2.2, HT4.bel⟩
theorem next_calls (l : List UInt8) (w : World) : Calls Tryz.prog 43 #[.string ⟨l.toArray⟩] w (NPost w (nextF l)) := by
 cases l with
 | nil => exact next_nil w
 | cons b r =>
  simp only [nextF]
  by_cases hF : flagsF (b.toNat / 16) (b.toNat % 16) = true
  ·
   rw [if_pos hF]
   cases hL : lenF r with
   | none => exact next_len b r w hF hL
   | some x =>
    obtain ⟨size, wide⟩ := x
    simp only
    by_cases hw : wide = 0
    ·
     rw [if_pos hw]; subst hw; exact next_more0 b r w hF size hL
    rw [if_neg hw]
    by_cases hM : r.length < wide + size
    ·
     rw [if_pos hM]; exact next_more1 b r w hF size wide hL hw hM
    rw [if_neg hM]
    cases hb : bodyF (b.toNat / 16) (b.toNat % 16) ((r.drop wide).take size) with
    | none => exact next_body b r w hF size wide hL hw hM _ rfl hb
    | some q => exact next_ok b r w hF size wide hL hw hM _ rfl q hb
  ·
   rw [if_neg hF]; exact next_flag b r w (Bool.eq_false_iff.2 hF)
end Go.Proofs.YtednegmjjjdinaaGreatDoor.Ext
namespace Go.Proofs.YtednegmjjjdinaaGreatDoor.Ext
open Go.RowKit Go.Proofs.YtednegmjjjdinaaGreatDoorW.PrintWords Go.Proofs.YtednegmjjjdinaaGreatDoorW.PrintLast Go.Proofs.YtednegmjjjdinaaGreatDoorW.PrintMore
set_option linter.unusedVariables false
set_option linter.unusedSimpArgs false
def nat8 (l : List UInt8) : List Int := l.map fun b => (b.toNat : Int)
theorem nat8_append (l m : List UInt8) : nat8 (l ++ m) = nat8 l ++ nat8 m := List.map_append
theorem nat8_length (l : List UInt8) : (nat8 l).length = l.length := List.length_map _
theorem bytesOf_l (l : List UInt8) : bytesOf ⟨l.toArray⟩ = nat8 l := by simp [bytesOf, nat8]
def Byt (base : Nat) (W : World) (v : Value) (l : List UInt8) : Prop := W.ownsRow base 5 1 v (nat8 l).length (nums .u8 (nat8 l))
theorem Byt.nil (base : Nat) (W : World) : Byt base W (.slice none 0 0) [] := own_nil W base 5 1
theorem Byt.drew {base : Nat} {W : World} {v : Value} {l : List UInt8} (h : Byt base W v l) : Byt base W.drew v l := h
theorem Byt.alloc {base : Nat} {W : World} {v : Value} {l : List UInt8} (h : Byt base W v l) (o : Obj) : Byt base (W.alloc o) v l := own_alloc h o
theorem Byt.below {base : Nat} {W W1 : World} {v : Value} {l : List UInt8} (h : Byt base W v l) (hb : Below W.heap.size W W1) : Byt base W1 v l := pw_own_below h hb
theorem Byt.slice {base : Nat} {W : World} {v : Value} {l : List UInt8} (h : Byt base W v l) : ∃ A c, v = .slice A l.length c := by
 obtain ⟨A, c, e⟩ := own_slice h
 rw [nat8_length] at e
 exact ⟨A, c, e⟩
theorem Byt.slice' {base : Nat} {W : World} {v : Value} {l : List UInt8} (h : Byt base W v l) : ∃ A n c, v = .slice A n c ∧ Aside0 (n = l.length) := by
 obtain ⟨A, c, e⟩ := h.slice
 exact ⟨A, _, c, e, ⟨rfl⟩⟩
theorem Byt.reads {base : Nat} {W : World} {A : Option Addr} {n c : Nat} {l : List UInt8} (h : Byt base W (.slice A n c) l) : n = l.length ∧ ReadsInt W .u8 A n (nat8 l) := by
 obtain ⟨A', c', e, hr⟩ := own_reads h
 injection e with e1 e2 e3
 subst e1
 rw [nat8_length] at e2 hr
 exact ⟨e2, by rw [e2]; exact hr⟩
theorem Byt.lower {base base' : Nat} {W : World} {v : Value} {l : List UInt8} (h : Byt base W v l) (hb : base' ≤ base) : Byt base' W v l := own_less h hb
theorem grown2 {W W1 W2 : World} {r r1 : Option Nat} (h1 : W.grownBy W1 r) (h2 : W1.grownBy W2 r1) (hr : r1 = r ∨ ∃ b, r1 = some b ∧ W.heap.size ≤ b) : W.grownBy W2 r :=
 ⟨h2.os.trans h1.os, h2.tape.trans h1.tape, h2.output.trans h1.output, Nat.le_trans h1.size h2.size, fun k hk hne => by
  refine (h2.block k (Nat.lt_of_lt_of_le hk h1.size) (fun e => ?_)).trans (h1.block k hk hne)
  rcases hr with hr | ⟨b, hr, hb⟩
  ·
   exact hne (e.trans hr)
  ·
   rw [hr] at e
   injection e with e
   omega⟩
def be16 (n : Nat) : List UInt8 := [UInt8.ofNat (n / 256), UInt8.ofNat n]
theorem nat8_be16 (n : Nat) : nat8 (be16 n) = [(n : Int) / 256 % 256, (n : Int) % 256] := by
 simp only [nat8, be16, List.map_cons, List.map_nil, UInt8.toNat_ofNat']
 simp
theorem put_calls (base : Nat) (v : Value) (l s : List UInt8) (w0 w : World) (hO : Byt base w v l) (hB : Below base w0 w) (hbase : base ≤ w.heap.size) (hl : l.length + 2 + s.length ≤ 140737488355328) :
  Calls Tryz.prog 205 #[v, .string ⟨s.toArray⟩] w fun e w' => ∃ v', e = .returned v' ∧ Byt base w' v' (l ++ (be16 s.length ++ s)) ∧ Below base w0 w' ∧ w.grownBy w' v.ownBlock := by
 have hs := size_l s
 have HO := Amk hO
 have HB := Amk hB
 have HBS := Amk hbase
 have HL := Amk hl
 clear hO hB hbase hl
 obtain ⟨A, c, rfl⟩ := HO.out.slice
 go_enter Tryz.func205, Tryz.ntmps205
 go_wp2_with (first | ((with_reducible refine gate_builtin (b := .append) (xs := #[.tmp 5, .tmp 13]) rfl ?_); at_builtin; refine print_append_row (w0 := w0) base rfl (.tmp 5) (.tmp 13) 67 5 .u8 1 rfl Tryz.underlying67 K.info5 (by decide) (.slice A l.length c) (nat8 l) [(s.length : Int) / 256 % 256, (s.length : Int) % 256] (some ⟨w.heap.size, 0, none⟩) 2 2 rfl rfl (HO.out.alloc _) (own_reads' (own_lit w 0 5 .u8 [(s.length : Int) / 256 % 256, (s.length : Int) % 256] (Nat.zero_le _) (by simp))) (HB.out.alloc HBS.out _) (Nat.le_trans HBS.out (by simp)) (by have := HL.out; rw [nat8_length]; omega) ?_; intro v1 w1 ho hb hg hat; have HO1 : Aside0 (Byt base w1 v1 (l ++ be16 s.length)) := ⟨by unfold Byt; rw [nat8_append, nat8_be16]; exact ho⟩; have HB1 := Amk hb; have HG1 := Amk (World.grownBy.trans (World.grownBy_alloc w _ _) hg); have HAT := Amk hat; clear ho hb hg hat; obtain ⟨A1, n1, c1, rfl, HN1⟩ := HO1.out.slice') | ((with_reducible refine gate_builtin (b := .append) (xs := #[.tmp 14, .tmp 15]) rfl ?_); at_builtin; refine print_append_str (w0 := w0) base rfl (.tmp 14) (.tmp 15) 67 9 5 rfl Tryz.underlying67 Tryz.underlying9 K.info5 (.slice A1 n1 c1) (nat8 (l ++ be16 s.length)) ⟨s.toArray⟩ rfl rfl HO1.out HB1.out (Nat.le_trans HBS.out HG1.out.size) (by have := HL.out; rw [nat8_length, List.length_append]; show l.length + 2 + (⟨s.toArray⟩ : ByteArray).size ≤ _; rw [hs]; omega) ?_; intro v2 w2 ho hb hg; have HO2 : Aside0 (Byt base w2 v2 (l ++ (be16 s.length ++ s))) := ⟨by rw [← List.append_assoc]; unfold Byt; rw [nat8_append (l ++ be16 s.length) s, ← bytesOf_l s]; exact ho⟩; have HB2 := Amk hb; have HG2 := Amk hg; clear ho hb hg))
 go_ret
 refine ⟨v2, rfl, HO2.out, HB2.out, grown2 HG1.out HG2.out ?_⟩
 rcases HAT.out with h | ⟨b, h, hb⟩
 ·
  exact .inl h
 ·
  exact .inr ⟨b, h, Nat.le_trans (by simp) hb⟩
theorem grown_below {W W1 : World} (h : W.grownBy W1 none) : Below W.heap.size W W1 := ⟨h.os, h.tape, h.output, h.size, fun k hk => h.block k hk (by simp)⟩
theorem OwnRow_ne {w : World} {base n g : Nat} {e t : TypeId} {size : Nat} {v : Value} {xs : List Value} {cs : Array Value} (h : w.ownsRow base e size v n xs) (hg : w.heap[g]? = some (.cells cs t (0, 0))) (hne : e ≠ t := by decide) : some g ≠ v.ownBlock := own_ne h hg hne
def BytPost (w : World) (l : List UInt8) (e : Ending) (w' : World) : Prop := ∃ v, e = .returned v ∧ Byt w.heap.size w' v l ∧ Below w.heap.size w w'
theorem litB (w : World) (o : Obj) (xs : List UInt8) (n : Nat) (hn : n = xs.length) (hx : xs.length ≤ 9223372036854775807) : Byt w.heap.size ((w.alloc o).alloc (.cells (nums .u8 (nat8 xs)).toArray 5)) (.slice (some ⟨w.heap.size + 1, 0, none⟩) n n) xs := by
 subst hn
 have h := own_lit (w.alloc o) w.heap.size 5 .u8 (nat8 xs) (by rw [World.size_alloc]; exact Nat.le_succ _) (by rw [nat8_length]; exact hx)
 rw [World.size_alloc, nat8_length] at h
 unfold Byt
 rw [nat8_length]
 exact h
theorem litC (w : World) (o1 o2 : Obj) (xs : List UInt8) (n : Nat) (hn : n = xs.length) (hx : xs.length ≤ 9223372036854775807) : Byt w.heap.size (((w.alloc o1).alloc o2).alloc (.cells (nums .u8 (nat8 xs)).toArray 5)) (.slice (some ⟨w.heap.size + 1 + 1, 0, none⟩) n n) xs := by
 have h := litB (w.alloc o1) o2 xs n hn hx
 rw [World.size_alloc] at h
 exact h.lower (Nat.le_succ _)
theorem nums_be16 (n : Nat) : (nums .u8 (nat8 (be16 n))).toArray = #[.int .u8 ((n : Int) / 256 % 256), .int .u8 ((n : Int) % 256)] := by rw [nat8_be16]; rfl
theorem lit2 (w : World) (o : Obj) (n : Nat) : Byt w.heap.size ((w.alloc o).alloc (.cells #[.int .u8 ((n : Int) / 256 % 256), .int .u8 ((n : Int) % 256)] 5)) (.slice (some ⟨w.heap.size + 1, 0, none⟩) 2 2) (be16 n) := by
 have h := litB w o (be16 n) 2 rfl (by simp [be16])
 rw [nums_be16] at h
 exact h
theorem rest_id (k n : Nat) (hk : k = 4 ∨ k = 5 ∨ k = 6 ∨ k = 7 ∨ k = 11) (p : Pkt) (vN vC : Value) (w : World) (h1 : p.kind = k) (h2 : p.id = n) :
  Calls Tryz.prog 129 #[.agg (p.pk vN vC).cells] w (BytPost w (be16 n)) := by
 obtain ⟨kind, flags, id, code, name, text, keep, will, topic, clean, names, codes⟩ := p
 simp only at h1 h2
 subst h1 h2
 simp only [Pkt.pk, Pk.cells]
 go_enter Tryz.func129, Tryz.ntmps129
 rcases hk with rfl | rfl | rfl | rfl | rfl
 all_goals go_wp2
 all_goals go_ret
 all_goals exact ⟨_, rfl, lit2 w _ n, bal (bal (Below.refl _ _) _) _⟩
theorem rest_bare (k n : Nat) (hk : k = 12 ∨ k = 13 ∨ k = 14) (p : Pkt) (vN vC : Value) (w : World) (h1 : p.kind = k) (h2 : p.id = n) :
  Calls Tryz.prog 129 #[.agg (p.pk vN vC).cells] w (BytPost w []) := by
 obtain ⟨kind, flags, id, code, name, text, keep, will, topic, clean, names, codes⟩ := p
 simp only at h1 h2
 subst h1 h2
 simp only [Pkt.pk, Pk.cells]
 go_enter Tryz.func129, Tryz.ntmps129
 rcases hk with rfl | rfl | rfl
 all_goals go_wp2
 all_goals go_ret
 all_goals exact ⟨_, rfl, Byt.nil _ _, bal (bal (Below.refl _ _) _) _⟩
theorem rest_ack (a c n : Nat) (ha : a < 256) (hc : c < 256) (p : Pkt) (vN vC : Value) (w : World) (h1 : p.kind = 2) (h2 : p.id = n) (h3 : p.keep = a) (h4 : p.code = c) :
  Calls Tryz.prog 129 #[.agg (p.pk vN vC).cells] w (BytPost w [UInt8.ofNat a, UInt8.ofNat c]) := by
 obtain ⟨kind, flags, id, code, name, text, keep, will, topic, clean, names, codes⟩ := p
 simp only at h1 h2 h3 h4
 subst h1 h2 h3 h4
 simp only [Pkt.pk, Pk.cells]
 go_enter Tryz.func129, Tryz.ntmps129
 go_wp2
 go_ret
 have hn : (nums .u8 (nat8 [UInt8.ofNat a, UInt8.ofNat c])).toArray = #[.int .u8 (a : Int), .int .u8 (c : Int)] := by
  simp [nums, nat8, Nat.mod_eq_of_lt ha, Nat.mod_eq_of_lt hc]
 have h := litC w (.cells #[.int .i64 2, .int .i64 flags, .int .i64 n, .int .i64 c, .string ⟨name.toArray⟩, .string ⟨text.toArray⟩, .int .i64 a, .bool will, .string ⟨topic.toArray⟩, .bool clean, vN, vC] 86) (.cells #[.int .u8 ((n : Int) / 256 % 256), .int .u8 ((n : Int) % 256)] 5) [UInt8.ofNat a, UInt8.ofNat c] 2 rfl (by simp)
 rw [hn] at h
 exact ⟨_, rfl, h, bal (bal (bal (Below.refl _ _) _) _) _⟩
def pubRest (f n : Nat) (topic text : List UInt8) : List UInt8 := be16 topic.length ++ topic ++ ((if 0 < f / 2 % 4 then be16 n else []) ++ text)
theorem rest_pub (f n : Nat) (hf : f < 16) (p : Pkt) (vN vC : Value) (w : World) (h1 : p.kind = 3) (h2 : p.id = n) (h3 : p.flags = f) (hl : p.topic.length + p.text.length ≤ 70368744177664) :
  Calls Tryz.prog 129 #[.agg (p.pk vN vC).cells] w (BytPost w (pubRest f n p.topic p.text)) := by
 obtain ⟨kind, flags, id, code, name, text, keep, will, topic, clean, names, codes⟩ := p
 simp only at h1 h2 h3 hl
 subst h1 h2 h3
 simp only [Pkt.pk, Pk.cells]
 have HL := Amk hl
 have hst := size_l text
 have qb := qos_bits f hf
 obtain ⟨m, qm, hm⟩ : ∃ m : Int, bits .and .i64 ((f : Int) / 2) 3 = m ∧ m = ((f / 2 % 4 : Nat) : Int) := ⟨_, rfl, qb⟩
 have HM := Amk hm
 clear hl qb hm
 go_enter Tryz.func129, Tryz.ntmps129
 go_upto_if 62 with (go_at_call 205; refine (put_calls w.heap.size (.slice none 0 0) [] topic w _ (Byt.nil _ _) (bal (bal (Below.refl _ _) _) _) (by simp only [World.size_alloc]; omega) (by have := HL.out; simp only [List.length_nil]; omega)).mono ?_; rintro e1 w1 ⟨v1, rfl, ho, hb, hg⟩; have HO1 := Amk ho; have HB1 := Amk hb; have HG1 := Amk hg; clear ho hb hg; obtain ⟨A1, n1, c1, rfl, HN1⟩ := HO1.out.slice'; have HBX := Amk (blk_grown (bka (heap_alloc_new w (.cells #[.int .i64 3, .int .i64 f, .int .i64 n, .int .i64 code, .string ⟨name.toArray⟩, .string ⟨text.toArray⟩, .int .i64 keep, .bool will, .string ⟨topic.toArray⟩, .bool clean, vN, vC] 86)) (.cells #[.int .u8 ((n : Int) / 256 % 256), .int .u8 ((n : Int) % 256)] 5)) HG1.out (by simp [Value.ownBlock])); have HID := Amk ((lit2 w (.cells #[.int .i64 3, .int .i64 f, .int .i64 n, .int .i64 code, .string ⟨name.toArray⟩, .string ⟨text.toArray⟩, .int .i64 keep, .bool will, .string ⟨topic.toArray⟩, .bool clean, vN, vC] 86) n).below (grown_below HG1.out)); have cf : w1.cell? ⟨w.heap.size, 1, none⟩ = some (.int .i64 f) := (bqc HBX.out 1).trans rfl)
 go_cut [3] (fun vb wx => ∃ A n1 c, vb = .slice A n1 c ∧ Aside0 (Byt w.heap.size wx vb (be16 topic.length ++ topic ++ (if 0 < f / 2 % 4 then be16 n else []))) ∧ Aside0 (Below w.heap.size w wx) ∧ wx.cell? ⟨w.heap.size, 5, none⟩ = some (.string ⟨text.toArray⟩))
 case first =>
  by_cases hq : 0 < f / 2 % 4
  ·
   have hd : 0 < m := by rw [HM.out]; omega
   go_wp2_with ((with_reducible refine gate_builtin (b := .append) (xs := #[.tmp 63, .tmp 64]) rfl ?_); at_builtin; go_loud (refine print_append_row (w0 := w) w.heap.size rfl (.tmp 63) (.tmp 64) 67 5 .u8 1 rfl Tryz.underlying67 K.info5 (by decide) (.slice A1 n1 c1) (nat8 ([] ++ (be16 topic.length ++ topic))) (nat8 (be16 n)) (some ⟨w.heap.size + 1, 0, none⟩) 2 2 rfl rfl HO1.out HID.out.reads.2 HB1.out HB1.out.size (by have := HL.out; rw [nat8_length]; simp only [List.length_append, List.length_nil, be16, List.length_cons]; omega) ?_); intro v2 w2 ho hb hg hat; have HO2 := Amk ho; have HB2 := Amk hb; have HBY := Amk (blk_grown HBX.out hg (OwnRow_ne HO1.out HBX.out)); clear ho hb hg hat; obtain ⟨A2, c2, hv2⟩ := own_slice HO2.out; obtain ⟨n2, hn2⟩ : ∃ n2, n2 = (nat8 ([] ++ (be16 topic.length ++ topic)) ++ nat8 (be16 n)).length := ⟨_, rfl⟩; rw [← hn2] at hv2; subst hv2; clear hn2)
   go_meet
   exact ⟨A2, n2, c2, rfl, ⟨by rw [if_pos hq]; unfold Byt; rw [nat8_append]; exact HO2.out⟩, HB2, (bqc HBY.out 5).trans rfl⟩
  ·
   have hd : ¬ 0 < m := by rw [HM.out]; omega
   go_wp2_with fail
   go_meet
   exact ⟨A1, n1, c1, rfl, ⟨by rw [if_neg hq, List.append_nil]; exact HO1.out⟩, HB1, (bqc HBX.out 5).trans rfl⟩
 case rest =>
  clear HO1 HB1 HG1 HN1 HBX HID cf qm HM
  obtain ⟨A2, n2, c2, rfl, HO2, HB2, ct⟩ := hcut
  go_wp2_with ((with_reducible refine gate_builtin (b := .append) (xs := #[.tmp 66, .tmp 68]) rfl ?_); at_builtin; go_loud (refine print_append_str (w0 := w) w.heap.size rfl (.tmp 66) (.tmp 68) 67 9 5 rfl Tryz.underlying67 Tryz.underlying9 K.info5 (.slice A2 n2 c2) (nat8 (be16 topic.length ++ topic ++ (if 0 < f / 2 % 4 then be16 n else []))) ⟨text.toArray⟩ rfl rfl HO2.out HB2.out HB2.out.size (by have := HL.out; rw [nat8_length, hst]; simp only [List.length_append, be16, List.length_cons, List.length_nil]; split <;> simp only [List.length_cons, List.length_nil] <;> omega) ?_); intro v3 w3 ho hb hg; have HO3 : Aside0 (Byt w.heap.size w3 v3 (pubRest f n topic text)) := ⟨by unfold pubRest; rw [← List.append_assoc]; unfold Byt; rw [nat8_append _ text, ← bytesOf_l text]; exact ho⟩; have HB3 := Amk hb; clear ho hb hg; obtain ⟨A3, n3, c3, rfl, HN3⟩ := HO3.out.slice')
  go_ret
  exact ⟨_, rfl, HO3.out, HB3.out⟩
end Go.Proofs.YtednegmjjjdinaaGreatDoor.Ext
namespace Go.Proofs.YtednegmjjjdinaaGreatDoor.Ext
open Go.RowKit Go.Proofs.YtednegmjjjdinaaGreatDoorW.PrintWords Go.Proofs.YtednegmjjjdinaaGreatDoorW.PrintLast Go.Proofs.YtednegmjjjdinaaGreatDoorW.PrintMore
attribute [local go_sem] max2_int max_two
set_option linter.unusedVariables false
set_option linter.unusedSimpArgs false
def byteOf (x : Int) : UInt8 := UInt8.ofNat (x % 256).toNat
theorem nat8_byteOf (x : Int) : nat8 [byteOf x] = [x % 256] := by
 simp only [nat8, byteOf, List.map_cons, List.map_nil, UInt8.toNat_ofNat']
 congr 1
 omega
theorem take_codes (cs : List Int) (j : Nat) (h : j < cs.length) : (cs.take (j + 1)).map byteOf = (cs.take j).map byteOf ++ [byteOf (rd cs j)] := by
 rw [List.take_succ_eq_append_getElem h, List.map_append, rd_at cs j h]; rfl
theorem rest_suback (n : Nat) (p : Pkt) (AN AC : Option Addr) (cN cC : Nat) (w : World) (h1 : p.kind = 9) (h2 : p.id = n) (hN : p.names = []) (hC : Kd.C (Kd.int .i64) w AC p.codes.length p.codes) (hl : p.codes.length ≤ 1048576) :
  Calls Tryz.prog 129 #[.agg (p.pk (.slice AN p.names.length cN) (.slice AC p.codes.length cC)).cells] w (BytPost w (be16 n ++ p.codes.map byteOf)) := by
 obtain ⟨kind, flags, id, code, name, text, keep, will, topic, clean, names, codes⟩ := p
 simp only at h1 h2 hN hC hl
 subst h1 h2 hN
 simp only [Pkt.pk, Pk.cells, List.length_nil]
 have HL := Amk hl
 have HC := Amk hC
 have HW2 : Aside0 (Below w.heap.size w ((w.alloc (.cells #[.int .i64 9, .int .i64 flags, .int .i64 n, .int .i64 code, .string ⟨name.toArray⟩, .string ⟨text.toArray⟩, .int .i64 keep, .bool will, .string ⟨topic.toArray⟩, .bool clean, .slice AN 0 cN, .slice AC codes.length cC] 86)).alloc (.cells #[.int .u8 ((n : Int) / 256 % 256), .int .u8 ((n : Int) % 256)] 5))) := ⟨bal (bal (Below.refl _ _) _) _⟩
 have HBX := Amk (bka (heap_alloc_new w (.cells #[.int .i64 9, .int .i64 flags, .int .i64 n, .int .i64 code, .string ⟨name.toArray⟩, .string ⟨text.toArray⟩, .int .i64 keep, .bool will, .string ⟨topic.toArray⟩, .bool clean, .slice AN 0 cN, .slice AC codes.length cC] 86)) (.cells #[.int .u8 ((n : Int) / 256 % 256), .int .u8 ((n : Int) % 256)] 5))
 have HID := Amk (lit2 w (.cells #[.int .i64 9, .int .i64 flags, .int .i64 n, .int .i64 code, .string ⟨name.toArray⟩, .string ⟨text.toArray⟩, .int .i64 keep, .bool will, .string ⟨topic.toArray⟩, .bool clean, .slice AN 0 cN, .slice AC codes.length cC] 86) n)
 have hmx : (if 0 < codes.length then (codes.length : Int) else 0) = codes.length := by split <;> omega
 clear hl hC
 go_enter Tryz.func129, Tryz.ntmps129
 go_wp2_with fail
 go_loopg [3, 89] codes.length (fun kq vb vi wr => ∃ j A n1 c1, vi = .int .i64 (j : Nat) ∧ j + kq = codes.length ∧ vb = .slice A n1 c1 ∧ Aside0 (Byt w.heap.size wr vb (be16 n ++ (codes.take j).map byteOf)) ∧ Aside0 (Below w.heap.size w wr) ∧ Aside0 (wr.heap[w.heap.size]? = some (.cells #[.int .i64 9, .int .i64 flags, .int .i64 n, .int .i64 code, .string ⟨name.toArray⟩, .string ⟨text.toArray⟩, .int .i64 keep, .bool will, .string ⟨topic.toArray⟩, .bool clean, .slice AN 0 cN, .slice AC codes.length cC] 86)))
 case atStart => exact ⟨0, _, _, _, rfl, by omega, rfl, ⟨by simpa using HID.out⟩, HW2, HBX⟩
 case round =>
  obtain ⟨j, A, n1, c1, rfl, hj, rfl, HO, HB, HBW⟩ := hrel
  clear HID HBX HW2
  cases gk with
  | zero =>
   have hge : decide ((j : Int) < (codes.length : Int)) = false := decide_eq_false (by omega)
   have HO2 : Aside0 (Byt w.heap.size wr (.slice A n1 c1) (be16 n ++ codes.map byteOf)) := ⟨by have := HO.out; rw [List.take_of_length_le (by omega)] at this; exact this⟩
   go_wp2_with fail
   go_ret
   exact ⟨_, rfl, HO2.out, HB.out⟩
  | succ g =>
   have hlt : decide ((j : Int) < (codes.length : Int)) = true := decide_eq_true (by omega)
   have hjb : j < 1048576 := by have := HL.out; omega
   have hlt0 : decide ((j : Int) < 0) = false := decide_eq_false (by omega)
   have c10 : wr.cell? ⟨w.heap.size, 10, none⟩ = some (.slice AN 0 cN) := (bqc HBW.out 10).trans rfl
   have c11 : wr.cell? ⟨w.heap.size, 11, none⟩ = some (.slice AC codes.length cC) := (bqc HBW.out 11).trans rfl
   obtain ⟨ad, rfl, hcell⟩ := Kd.at_int (Kd.C_below HC.out HB.out) (j : Int) (by omega) (by omega)
   simp only [Int.toNat_natCast] at hcell
   go_wp2_with ((with_reducible refine gate_builtin (b := .append) (xs := #[.tmp 109, .tmp 116]) rfl ?_); at_builtin; refine print_append_num (w0 := w) w.heap.size rfl (.tmp 109) (.tmp 116) 67 5 .u8 1 rfl Tryz.underlying67 K.info5 (by decide) (.slice A n1 c1) (nat8 (be16 n ++ (codes.take j).map byteOf)) (rd codes j % 256) rfl rfl HO.out HB.out HB.out.size (by have := HL.out; rw [nat8_length]; simp only [List.length_append, be16, List.length_cons, List.length_nil, List.length_map, List.length_take]; omega) ?_; intro v2 w2 ho hb hg hat; have HO2 : Aside0 (Byt w.heap.size w2 v2 (be16 n ++ (codes.take (j + 1)).map byteOf)) := ⟨by unfold Byt; rw [take_codes codes j (by omega), ← List.append_assoc, nat8_append, nat8_byteOf]; exact ho⟩; have HB2 := Amk hb; have HBW2 := Amk (blk_grown HBW.out hg (OwnRow_ne HO.out HBW.out)); clear ho hb hg hat; obtain ⟨A2, n2, c2, rfl, HN2⟩ := HO2.out.slice')
   go_roundg g
   case rel => exact ⟨j + 1, A2, n2, c2, by go_num, by omega, rfl, HO2, HB2, HBW2⟩
   case measure => omega
theorem eqS_refl (l : List ByteArray) (hl : l.length ≤ 1048576) : ∃ k, QE.slices_Equal_string_string.f k l l = some true := by
 have key : ∀ (d i : Nat), i + d = l.length → QE.slices_Equal_string_string.l0 (d + 1) l l (l.length : Int) (i : Int) = some true := by
  intro d
  induction d with
  | zero => intro i hi; simp only [QE.slices_Equal_string_string.l0]; rw [if_neg (by omega)]
  | succ d ih =>
   intro i hi
   have h := ih (i + 1) (by omega)
   have hw : wrap64 ((i : Int) + 1) = ((i + 1 : Nat) : Int) := by unfold wrap64; omega
   rw [QE.slices_Equal_string_string.l0]
   rw [if_pos (by omega), if_pos (by omega), if_pos (by omega), if_pos (by omega), if_pos rfl, hw]
   exact h
 exact ⟨l.length + 1, by unfold QE.slices_Equal_string_string.f; rw [if_pos rfl]; exact key l.length 0 (by omega)⟩
theorem eqI_refl (l : List Int) (hl : l.length ≤ 1048576) : ∃ k, QE.slices_Equal_int_int.f k l l = some true := by
 have key : ∀ (d i : Nat), i + d = l.length → QE.slices_Equal_int_int.l0 (d + 1) l l (l.length : Int) (i : Int) = some true := by
  intro d
  induction d with
  | zero => intro i hi; simp only [QE.slices_Equal_int_int.l0]; rw [if_neg (by omega)]
  | succ d ih =>
   intro i hi
   have h := ih (i + 1) (by omega)
   have hw : wrap64 ((i : Int) + 1) = ((i + 1 : Nat) : Int) := by unfold wrap64; omega
   rw [QE.slices_Equal_int_int.l0]
   rw [if_pos (by omega), if_pos (by omega), if_pos (by omega), if_pos (by omega), if_pos rfl, hw]
   exact h
 exact ⟨l.length + 1, by unfold QE.slices_Equal_int_int.f; rw [if_pos rfl]; exact key l.length 0 (by omega)⟩
def TwoAt (w : World) (c0 c1 : Array Value) (W : World) : Prop := (∀ j, W.cell? ⟨w.heap.size, j, none⟩ = c0[j]?) ∧ (∀ j, W.cell? ⟨w.heap.size + 1, j, none⟩ = c1[j]?)
theorem TwoAt.mk0 (w : World) (c0 c1 : Array Value) : TwoAt w c0 c1 ((w.alloc (.cells c0 86)).alloc (.cells c1 86)).drew :=
 ⟨fun j => bqc (w := (w.alloc (.cells c0 86)).alloc (.cells c1 86)) (bka (heap_alloc_new w _) _) j, fun j => bqc (w := (w.alloc (.cells c0 86)).alloc (.cells c1 86)) (by have := heap_alloc_new (w.alloc (.cells c0 86)) (.cells c1 86); rwa [World.size_alloc] at this) j⟩
theorem TwoAt.below {w W W1 : World} {c0 c1 : Array Value} (h : TwoAt w c0 c1 W) (hs : w.heap.size + 2 ≤ W.heap.size) (hb : Below W.heap.size W W1) : TwoAt w c0 c1 W1 :=
 ⟨fun j => (hb.cell (p := ⟨w.heap.size, j, none⟩) (by show w.heap.size < _; omega)).trans (h.1 j), fun j => (hb.cell (p := ⟨w.heap.size + 1, j, none⟩) (by show w.heap.size + 1 < _; omega)).trans (h.2 j)⟩
theorem same_true (p : Pkt) (A0 A1 A2 A3 : Option Addr) (c0 c1 c2 c3 : Nat) (w : World) (h0 : Kd.C Kd.string w A0 p.names.length p.names) (k0 : p.names.length ≤ c0) (h1 : Kd.C (Kd.int .i64) w A1 p.codes.length p.codes) (k1 : p.codes.length ≤ c1)
  (h2 : Kd.C Kd.string w A2 p.names.length p.names) (k2 : p.names.length ≤ c2) (h3 : Kd.C (Kd.int .i64) w A3 p.codes.length p.codes) (k3 : p.codes.length ≤ c3) (hn : p.names.length ≤ 1048576) (hc : p.codes.length ≤ 1048576) :
  Calls Tryz.prog 130 #[.agg (p.pk (.slice A0 p.names.length c0) (.slice A1 p.codes.length c1)).cells, .agg (p.pk (.slice A2 p.names.length c2) (.slice A3 p.codes.length c3)).cells] w fun e w' => e = .returned (.bool true) ∧ Below w.heap.size w w' := by
 obtain ⟨ka, ha⟩ := eqS_refl p.names hn
 obtain ⟨kb, hb⟩ := eqI_refl p.codes hc
 have E1 : Aside0 (∀ W, Below w.heap.size w W → Calls Tryz.prog 206 #[.slice A0 p.names.length c0, .slice A2 p.names.length c2] W fun e w' => e = .returned (.bool true) ∧ Drawn0 W w') := ⟨fun W hW => QE.slices_Equal_string_string.calls ka A0 c0 p.names A2 c2 p.names true W (Kd.C_below h0 hW) k0 (Kd.C_below h2 hW) k2 ha⟩
 have E2 : Aside0 (∀ W, Below w.heap.size w W → Calls Tryz.prog 207 #[.slice A1 p.codes.length c1, .slice A3 p.codes.length c3] W fun e w' => e = .returned (.bool true) ∧ Drawn0 W w') := ⟨fun W hW => QE.slices_Equal_int_int.calls kb A1 c1 p.codes A3 c3 p.codes true W (Kd.C_below h1 hW) k1 (Kd.C_below h3 hW) k3 hb⟩
 clear h0 k0 h1 k1 h2 k2 h3 k3 hn hc ha hb
 obtain ⟨kind, flags, id, code, name, text, keep, will, topic, clean, names, codes⟩ := p
 simp only [Pkt.pk, Pk.cells] at *
 generalize names.length = nN at *
 generalize codes.length = nC at *
 go_enter Tryz.func130, Tryz.ntmps130
 go_upto_region 1 with (fail)
 dsimp only [List.append]
 go_wp2_with (first | (go_at_call 206; refine (E1.out _ (bal (bal (Below.refl _ _) _) _)).mono ?_; rintro e1 w1 ⟨rfl, hb1⟩; obtain ⟨n1, rfl⟩ := hb1.out) | (go_at_call 207; refine (E2.out _ (pw_below_drewN (bal (bal (Below.refl _ _) _) _) _)).mono ?_; rintro e1 w2 ⟨rfl, hb2⟩; obtain ⟨n2, rfl⟩ := hb2.out))
 go_ret
 exact ⟨rfl, by repeat (first | apply pw_below_drewN | apply bal | exact Below.refl _ _)⟩
end Go.Proofs.YtednegmjjjdinaaGreatDoor.Ext
namespace Go.Proofs.YtednegmjjjdinaaGreatDoor.Ext
open Go.RowKit Go.Proofs.YtednegmjjjdinaaGreatDoorW.PrintWords Go.Proofs.YtednegmjjjdinaaGreatDoorW.PrintLast Go.Proofs.YtednegmjjjdinaaGreatDoorW.PrintMore
set_option linter.unusedVariables false
set_option linter.unusedSimpArgs false
def lenEnc (n : Nat) : List UInt8 := if n ≤ 127 then [UInt8.ofNat n] else UInt8.ofNat (n % 128 + 128) :: lenEnc (n / 128)
termination_by n
decreasing_by omega
def enc (k f : Nat) (r : List UInt8) : List UInt8 := UInt8.ofNat (k * 16 + f) :: (lenEnc r.length ++ r)
def EPost (w : World) (o : List UInt8) (err : Int) (e : Ending) (w' : World) : Prop := ∃ v, e = .returned (.tuple #[v, .int .i64 err]) ∧ Byt w.heap.size w' v o ∧ Below w.heap.size w w'
theorem strOf_nat8 (l : List UInt8) : strOfNums (nat8 l) = ⟨l.toArray⟩ := by
 unfold strOfNums nat8
 congr 1
 simp [Function.comp_def]
theorem or_hi (k f : Nat) (hk : k ≤ 14) (hf : f < 16) : bits .or .i64 ((k : Int) * 16) (f : Int) = ((k * 16 + f : Nat) : Int) := by
 rw [bits_join .i64 63 (by decide) (fun n h0 h1 => by rw [IntKind.wrap_i64]; omega) 4 _ _ (by omega) (by omega) (by omega) (by omega) (by omega) (by omega)]
 omega
theorem or_128 (m : Nat) : bits .or .u8 ((m : Int) % 256) 128 = ((m % 128 + 128 : Nat) : Int) := by
 have : ∀ x : Fin 256, bits .or .u8 (x.val : Int) 128 = ((x.val % 128 + 128 : Nat) : Int) := by decide +kernel
 have h := this ⟨m % 256, by omega⟩
 simp only at h
 rw [show (m : Int) % 256 = ((m % 256 : Nat) : Int) by omega, h, show m % 256 % 128 = m % 128 by omega]
theorem lit1 (w : World) (x : Nat) : Byt w.heap.size (w.alloc (.cells #[.int .u8 ((x : Int) % 256)] 5)) (.slice (some ⟨w.heap.size, 0, none⟩) 1 1) [UInt8.ofNat x] := by
 have h := own_lit w w.heap.size 5 .u8 (nat8 [UInt8.ofNat x]) (Nat.le_refl _) (by simp [nat8])
 have hn : nat8 [UInt8.ofNat x] = [(x : Int) % 256] := by simp [nat8]
 unfold Byt
 rw [hn] at h ⊢
 exact h
theorem nat8_one (x : Nat) : nat8 [UInt8.ofNat x] = [(x : Int) % 256] := by simp [nat8]
structure Within (p : Pkt) (k f : Nat) : Prop where
 kind : p.kind = k
 flags : p.flags = f
 k1 : 1 ≤ k
 k14 : k ≤ 14
 f15 : f < 16
 names : p.names.length ≤ 32
 codes : p.codes.length ≤ 32
 all : p.name.length + p.text.length + p.topic.length ≤ 16384
theorem encode_ok (p : Pkt) (k f : Nat) (h : Within p k f) (A0 A1 : Option Addr) (c0 c1 : Nat) (rl : List UInt8) (w : World) (hr : ∀ W, Below w.heap.size w W → Calls Tryz.prog 129 #[.agg (p.pk (.slice A0 p.names.length c0) (.slice A1 p.codes.length c1)).cells] W (BytPost W rl)) (hlr : rl.length ≤ 1073741824)
  (h0 : Kd.C Kd.string w A0 p.names.length p.names) (k0 : p.names.length ≤ c0) (h1 : Kd.C (Kd.int .i64) w A1 p.codes.length p.codes) (k1 : p.codes.length ≤ c1) (n : Nat) (hx : nextF (enc k f rl) = .ok p n) :
  Calls Tryz.prog 76 #[.agg (p.pk (.slice A0 p.names.length c0) (.slice A1 p.codes.length c1)).cells] w (EPost w (enc k f rl) 0) := by
 have HW := Amk h
 have HR := Amk hr
 have H0 := Amk (And.intro h0 k0)
 have H1 := Amk (And.intro h1 k1)
 have HX := Amk hx
 have HLR := Amk hlr
 clear h hr h0 k0 h1 k1 hx hlr
 obtain ⟨kind, flags, id, code, name, text, keep, will, topic, clean, names, codes⟩ := p
 obtain ⟨e1, e2, b1, b2, b3, b4, b5, b6⟩ := HW.out
 simp only at e1 e2 b4 b5 b6
 subst e1 e2
 simp only [Pkt.pk, Pk.cells] at *
 have s1 := size_l name
 have s2 := size_l text
 have s3 := size_l topic
 have d0 : decide ((f : Int) < 0) = false := decide_eq_false (by omega)
 have d1 : decide ((k : Int) < 1) = false := decide_eq_false (by omega)
 have d2 : decide ((14 : Int) < (k : Int)) = false := decide_eq_false (by omega)
 have d3 : decide ((15 : Int) < (f : Int)) = false := decide_eq_false (by omega)
 have d4 : decide ((32 : Int) < (names.length : Int)) = false := decide_eq_false (by omega)
 have d5 : decide ((32 : Int) < (codes.length : Int)) = false := decide_eq_false (by omega)
 have d6 : decide ((16384 : Int) < (name.length : Int) + (text.length : Int) + (topic.length : Int)) = false := decide_eq_false (by omega)
 obtain ⟨fb, hor, HFB⟩ : ∃ fb : Nat, bits .or .i64 ((k : Int) * 16) (f : Int) = (fb : Int) ∧ Aside0 (fb = k * 16 + f) := ⟨_, or_hi k f b2 b3, ⟨rfl⟩⟩
 go_enter Tryz.func76, Tryz.ntmps76
 try dsimp only [List.append]
 go_upto_region 3 with (fail)
 have HBX := Amk (heap_alloc_new w (.cells #[.int .i64 k, .int .i64 f, .int .i64 id, .int .i64 code, .string ⟨name.toArray⟩, .string ⟨text.toArray⟩, .int .i64 keep, .bool will, .string ⟨topic.toArray⟩, .bool clean, .slice A0 names.length c0, .slice A1 codes.length c1] 86))
 go_upto_block 0 with (first | ((with_reducible refine gate_dst (N := 54) rfl ?_); refine wpList_load_row rfl 86 (.tmp 1) rfl w.heap.size rfl 86 (#[.int .i64 k, .int .i64 f, .int .i64 id, .int .i64 code, .string ⟨name.toArray⟩, .string ⟨text.toArray⟩, .int .i64 keep, .bool will, .string ⟨topic.toArray⟩, .bool clean, .slice A0 names.length c0, .slice A1 codes.length c1]) (0, 0) _ HBX.out Tryz.underlying86 rfl (by kernel_rfl) ?_) | (go_at_call 129; refine (HR.out _ (bal (Below.refl _ _) _)).mono ?_; rintro e1 w1 ⟨v1, rfl, ho, hb⟩; have HO1 := Amk ho; have HB1 := Amk hb; clear ho hb; obtain ⟨A2, n2, c2, rfl, HN2⟩ := HO1.out.slice'; have HBX1 := Amk ((HB1.out.block w.heap.size (by simp)).trans HBX.out); have c0' : w1.cell? ⟨w.heap.size, 0, none⟩ = some (.int .i64 k) := (bqc HBX1.out 0).trans rfl; have c1' : w1.cell? ⟨w.heap.size, 1, none⟩ = some (.int .i64 f) := (bqc HBX1.out 1).trans rfl))
 have HL1 := Amk (lit1 w1 fb)
 have HB2 : Aside0 (Below w1.heap.size w1 (w1.alloc (.cells #[.int .u8 ((fb : Int) % 256)] 5))) := ⟨bal (Below.refl _ _) _⟩
 have HNB : Aside0 (n2 ≤ 1073741824) := ⟨by rw [HN2.out]; exact HLR.out⟩
 go_wp2_with fail
 go_loopg [5, 6] n2 (fun kq vb vn wr => ∃ (m : Nat) (A : Option Addr) (nb c : Nat) (lb : List UInt8), vn = .int .i64 m ∧ vb = .slice A nb c ∧ Aside0 (Byt w1.heap.size wr vb lb) ∧ Aside0 (lb ++ lenEnc m = UInt8.ofNat fb :: lenEnc n2) ∧ Aside0 (Below w1.heap.size w1 wr) ∧ Aside0 (m ≤ kq ∧ m ≤ n2 ∧ lb.length + m ≤ n2 + 1))
 case atStart => exact ⟨n2, _, _, _, [UInt8.ofNat fb], rfl, rfl, HL1, ⟨rfl⟩, HB2, ⟨by simp; omega⟩⟩
 case round =>
  obtain ⟨m, A, nb, c, lb, rfl, rfl, HO, HE, HB, HM⟩ := hrel
  clear HL1 HB2
  by_cases hm : 127 < m
  ·
   have g1 : decide ((127 : Int) < (m : Int)) = true := decide_eq_true (by omega)
   have g3 : (127 : Int) < (m : Int) := by omega
   have hob := or_128 m
   obtain ⟨ob, hob1, HOB⟩ : ∃ ob : Nat, bits .or .u8 ((m : Int) % 256) 128 = (ob : Int) ∧ Aside0 (ob = m % 128 + 128) := ⟨_, hob, ⟨rfl⟩⟩
   have HG := Amk hm
   clear hob hm
   go_wp2_with ((with_reducible refine gate_builtin (b := .append) (xs := #[.tmp 68, .tmp 72]) rfl ?_); at_builtin; refine print_append_num (w0 := w1) w1.heap.size rfl (.tmp 68) (.tmp 72) 67 5 .u8 1 rfl Tryz.underlying67 K.info5 (by decide) (.slice A nb c) (nat8 lb) (ob : Int) rfl rfl HO.out HB.out HB.out.size (by have := HM.out; have := HNB.out; rw [nat8_length]; omega) ?_; intro v2 w2 ho hb hg hat; have HO2 : Aside0 (Byt w1.heap.size w2 v2 (lb ++ [UInt8.ofNat (m % 128 + 128)])) := ⟨by unfold Byt; rw [nat8_append, nat8_one, show ((m % 128 + 128 : Nat) : Int) % 256 = (ob : Int) by have := HOB.out; omega]; exact ho⟩; have HB3 := Amk hb; clear ho hb hg hat; obtain ⟨A3, n3, c3, rfl, HN3⟩ := HO2.out.slice')
   go_roundg (gk - 1)
   case rel => exact ⟨m / 128, A3, n3, c3, _, by go_num, rfl, HO2, ⟨by rw [← HE.out, lenEnc.eq_def m, if_neg (by have := HG.out; omega)]; simp⟩, HB3, ⟨by have := HM.out; have := HG.out; rw [List.length_append]; simp only [List.length_cons, List.length_nil]; omega⟩⟩
   case measure => have := HM.out; have := HG.out; omega
  ·
   have g1 : ¬ (127 : Int) < (m : Int) := by omega
   have HG := Amk hm
   clear hm
   have HE2 : Aside0 (lb ++ [UInt8.ofNat m] ++ rl = enc k f rl) := ⟨by
    have := HE.out; rw [lenEnc.eq_def m, if_pos (by have := HG.out; omega)] at this
    rw [this, enc, ← HFB.out, HN2.out]; simp⟩
   clear HE
   go_wp2_with (first
    | ((with_reducible refine gate_builtin (b := .append) (xs := #[.tmp 76, .tmp 79]) rfl ?_); at_builtin; refine print_append_num (w0 := w1) w1.heap.size rfl (.tmp 76) (.tmp 79) 67 5 .u8 1 rfl Tryz.underlying67 K.info5 (by decide) (.slice A nb c) (nat8 lb) (m : Int) rfl rfl HO.out HB.out HB.out.size (by have := HM.out; have := HNB.out; rw [nat8_length]; omega) ?_; intro v2 w2 ho hb hg hat; have HO2 : Aside0 (Byt w1.heap.size w2 v2 (lb ++ [UInt8.ofNat m])) := ⟨by unfold Byt; rw [nat8_append, nat8_one, show (m : Int) % 256 = (m : Int) by have := HG.out; omega]; exact ho⟩; have HB3 := Amk hb; clear ho hb hg hat; obtain ⟨A3, n3, c3, rfl, HN3⟩ := HO2.out.slice')
    | ((with_reducible refine gate_builtin (b := .append) (xs := #[.tmp 80, .tmp 81]) rfl ?_); at_builtin; refine print_append_row (w0 := w1) w1.heap.size rfl (.tmp 80) (.tmp 81) 67 5 .u8 1 rfl Tryz.underlying67 K.info5 (by decide) (.slice A3 n3 c3) (nat8 (lb ++ [UInt8.ofNat m])) (nat8 rl) A2 n2 c2 rfl rfl HO2.out (HO1.out.below HB3.out).reads.2 HB3.out HB3.out.size (by have := HM.out; have := HNB.out; rw [nat8_length, List.length_append]; simp only [List.length_cons, List.length_nil]; omega) ?_; intro v4 w4 ho hb hg hat; have HO4 : Aside0 (Byt w1.heap.size w4 v4 (enc k f rl)) := ⟨by rw [← HE2.out]; unfold Byt; rw [nat8_append (lb ++ [UInt8.ofNat m]) rl]; exact ho⟩; have HB4 := Amk hb; clear ho hb hg hat; obtain ⟨A4, n4, c4, rfl, HN4⟩ := HO4.out.slice'; have hcv := own_string (P := Tryz.prog) (src := 67) (dst := 9) (e := 5) Tryz.underlying67 Tryz.underlying5 Tryz.underlying9 HO4.out; rw [strOf_nat8] at hcv; have HNX := Amk (next_calls (enc k f rl) w4); rw [HX.out] at HNX; obtain ⟨eb, heb⟩ : ∃ eb, eb = enc k f rl := ⟨_, rfl⟩; rw [← heb] at hcv HNX; have HEB := Amk heb; clear heb)
    | (go_at_call 43; refine HNX.out.mono ?_; rintro e5 w5 ⟨vN, vC, rfl, hrN, hrC, hb⟩; obtain ⟨AN, cN, rfl⟩ := Kd.R_slice hrN; obtain ⟨AC, cC, rfl⟩ := Kd.R_slice hrC; have HRN := Amk hrN; have HRC := Amk hrC; have HB5 := Amk hb; clear hrN hrC hb; simp only [Pkt.pk, Pk.cells]; have HBA : Aside0 (Below w.heap.size w w5) := ⟨below_then (below_then (below_then (bal (Below.refl _ _) _) (by simp) HB1.out) (Nat.le_trans (by simp) HB1.out.size) HB4.out) (Nat.le_trans (Nat.le_trans (by simp) HB1.out.size) HB4.out.size) HB5.out⟩; have HBX5 := Amk ((HB5.out.block w.heap.size (Nat.lt_of_lt_of_le (blk_lt HBX1.out) HB4.out.size)).trans ((HB4.out.block w.heap.size (blk_lt HBX1.out)).trans HBX1.out)); have cbx : ∀ (X : Obj) (j : Nat), (w5.alloc X).cell? ⟨w.heap.size, j, none⟩ = (#[.int .i64 k, .int .i64 f, .int .i64 id, .int .i64 code, .string ⟨name.toArray⟩, .string ⟨text.toArray⟩, .int .i64 keep, .bool will, .string ⟨topic.toArray⟩, .bool clean, .slice A0 names.length c0, .slice A1 codes.length c1] : Array Value)[j]? := fun X j => bqc (bka HBX5.out X) j) | (go_at_call 130; refine (same_true ⟨k, f, id, code, name, text, keep, will, topic, clean, names, codes⟩ AN AC A0 A1 cN cC c0 c1 (w5.alloc _) (Kd.C_below (Kd.R_reads' HRN.out).2.2 (bal (Below.refl _ _) _)) (Kd.R_reads' HRN.out).2.1 (Kd.C_below (Kd.R_reads' HRC.out).2.2 (bal (Below.refl _ _) _)) (Kd.R_reads' HRC.out).2.1 (Kd.C_below H0.out.1 (bal HBA.out _)) H0.out.2 (Kd.C_below H1.out.1 (bal HBA.out _)) H1.out.2 (by show names.length ≤ _; have := HW.out.names; simp only at this; omega) (by show codes.length ≤ _; have := HW.out.codes; simp only at this; omega)).mono ?_; rintro e6 w6 ⟨rfl, hb⟩; have HB6 := Amk hb; clear hb))
   go_ret2
   exact ⟨_, rfl, (((HO4.out.lower (Nat.le_trans (by simp) HB1.out.size)).below HB5.out).alloc _).below HB6.out, below_then (bal HBA.out _) (Nat.le_trans HBA.out.size (by simp)) HB6.out⟩
end Go.Proofs.YtednegmjjjdinaaGreatDoor.Ext
