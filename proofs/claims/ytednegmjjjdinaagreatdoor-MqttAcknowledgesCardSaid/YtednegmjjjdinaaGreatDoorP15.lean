/- Texts of this claim's author, joined and pruned by a program of his (pack.py): Ya, Yb, Yc, Yd, Ye, Yf, Yg, Yh, Yi, Yj. -/
import Derived.WalkSpells
import Derived.Test.YtednegmjjjdinaaGreatDoorP0
import Derived.Test.YtednegmjjjdinaaGreatDoorP1
import Derived.Test.YtednegmjjjdinaaGreatDoorP2
import Derived.Test.YtednegmjjjdinaaGreatDoorP3
import Derived.Test.YtednegmjjjdinaaGreatDoorP4
import Derived.Test.YtednegmjjjdinaaGreatDoorP5
import Derived.Test.YtednegmjjjdinaaGreatDoorP7
import Derived.Test.YtednegmjjjdinaaGreatDoorP10
import Derived.Test.YtednegmjjjdinaaGreatDoorP11
import Derived.Test.YtednegmjjjdinaaGreatDoorP12
import Derived.Test.YtednegmjjjdinaaGreatDoorP13
import Derived.Test.YtednegmjjjdinaaGreatDoorP14
set_option maxRecDepth 100000
set_option maxHeartbeats 4000000
open Go.Proofs.YtednegmjjjdinaaGreatDoorW.PrintWords renaming blk_cell → bqc, below_alloc → bal, below_drew1 → bdr, blk_alloc → bka, below_then → bth, blk_lt → blt
open List renaming getElem_toArray → Lga, getElem_cons_zero → Lgz, getElem_cons_succ → Lgs, setIfInBounds_toArray → Lsa, set_cons_zero → Lsz, set_cons_succ → Lss
open Go.Proofs.YtednegmjjjdinaaGreatDoorW.PrintWords.Aside0 renaming mk → Amk
namespace Go.Proofs.YtednegmjjjdinaaGreatDoor.Ext
open Go.RowKit Go.Proofs.YtednegmjjjdinaaGreatDoorW.PrintWords Go.Proofs.YtednegmjjjdinaaGreatDoorW.PrintLast Go.Proofs.YtednegmjjjdinaaGreatDoorW.PrintMore
set_option linter.unusedVariables false
set_option linter.unusedSimpArgs false
structure BOp where
 kind : Int
 conn : Int
 sub : Int
 n : Int
 queue : ByteArray
 text : ByteArray
 durable : Bool
 auto : Bool
 keep : Bool
 topic : ByteArray
 body : ByteArray
 mdur : Bool
 til : Int
def opCells (x : BOp) (A : Option Addr) (c : Nat) : List Value :=
 [.int .i64 x.kind, .int .i64 x.conn, .int .i64 x.sub, .int .i64 x.n, .string x.queue, .string x.text, .bool x.durable, .bool x.auto, .bool x.keep, .string x.topic, .string x.body, .slice A 0 c, .bool x.mdur, .int .i64 x.til]
def kOp : Kd BOp where
 sz := 14
 E := []
 K := fun _ x cs => ∃ A c, cs = opCells x A c
 M := fun _ _ _ x cs => ∃ A c, cs = opCells x A c
 K_len := fun ⟨A, c, h⟩ => by rw [h]; rfl
 K_one := fun ⟨A, c, h⟩ u hu => by
  rw [h] at hu
  simp only [opCells, List.mem_cons, List.not_mem_nil, or_false] at hu
  rcases hu with rfl | rfl | rfl | rfl | rfl | rfl | rfl | rfl | rfl | rfl | rfl | rfl | rfl | rfl
  all_goals rfl
 K_below := fun _ h => h
 K_of_M := fun h => h
 M_mono := fun _ h => h
 M_bound := fun h => h
 M_move := fun _ h => h
 M_lower := fun _ h => h
def zOp : BOp := ⟨0, 0, 0, 0, ⟨#[]⟩, ⟨#[]⟩, false, false, false, ⟨#[]⟩, ⟨#[]⟩, false, 0⟩
structure BAct where
 kind : Int
 bytes : ByteArray
 ops : List BOp
 ref : Int
 text : ByteArray
def kAct : Kd BAct := Kd.iso (Kd.pair (Kd.int .i64) (Kd.pair Kd.string (Kd.pair (Kd.slice 64 kOp) (Kd.pair (Kd.int .i64) Kd.string)))) (fun x : BAct => (x.kind, x.bytes, x.ops, x.ref, x.text))
theorem kAct_open {w : World} {x : BAct} {cs : List Value} (h : kAct.K w x cs) : ∃ A2 c2, cs = [.int .i64 x.kind, .string x.bytes, .slice A2 x.ops.length c2, .int .i64 x.ref, .string x.text] ∧ x.ops.length ≤ c2 ∧ kOp.C w A2 x.ops.length x.ops := by
 obtain ⟨_, _, rfl, rfl, ⟨_, _, rfl, rfl, ⟨_, _, rfl, ⟨A2, c2, rfl, l2, g2⟩, ⟨_, _, rfl, rfl, rfl⟩⟩⟩⟩ := h
 exact ⟨A2, c2, rfl, l2, g2⟩
theorem kAct_openM {w : World} {base : Nat} {ok : Nat → Prop} {x : BAct} {cs : List Value} (h : kAct.M w base ok x cs) : ∃ v2, cs = [.int .i64 x.kind, .string x.bytes, v2, .int .i64 x.ref, .string x.text] ∧ kOp.R 64 w base ok v2 x.ops := by
 obtain ⟨_, _, rfl, rfl, ⟨_, _, rfl, rfl, ⟨_, _, rfl, ⟨v2, rfl, g2⟩, ⟨_, _, rfl, rfl, rfl⟩⟩⟩⟩ := h
 exact ⟨v2, rfl, g2⟩
theorem kAct_mkM (w : World) (base : Nat) (ok : Nat → Prop) (x : BAct) {v2 : Value} (g2 : kOp.R 64 w base ok v2 x.ops) : kAct.M w base ok x [.int .i64 x.kind, .string x.bytes, v2, .int .i64 x.ref, .string x.text] :=
 ⟨[.int .i64 x.kind], [.string x.bytes, v2, .int .i64 x.ref, .string x.text], rfl, rfl, ⟨[.string x.bytes], [v2, .int .i64 x.ref, .string x.text], rfl, rfl, ⟨[v2], [.int .i64 x.ref, .string x.text], rfl, ⟨v2, rfl, g2⟩, ⟨[.int .i64 x.ref], [.string x.text], rfl, rfl, rfl⟩⟩⟩⟩
theorem info64 : (Tryz.prog.info? 64).map (fun i => (i.zero, i.size, i.bytes)) = some (some (.agg #[.int .i64 0, .int .i64 0, .int .i64 0, .int .i64 0, .string ⟨#[]⟩, .string ⟨#[]⟩, .bool false, .bool false, .bool false, .string ⟨#[]⟩, .string ⟨#[]⟩, .slice none 0 0, .bool false, .int .i64 0]), 14, 144) := by kernel_rfl
theorem info57 : (Tryz.prog.info? 57).map (fun i => (i.zero, i.size, i.bytes)) = some (some (.agg #[.int .i64 0, .string ⟨#[]⟩, .slice none 0 0, .int .i64 0, .string ⟨#[]⟩]), 5, 72) := by kernel_rfl
theorem info181 : (Tryz.prog.info? 181).map (fun i => (i.zero, i.size, i.bytes)) = some (some (.agg #[.string ⟨#[]⟩, .int .i64 0, .int .i64 0, .string ⟨#[]⟩, .float .f64 0]), 5, 56) := by kernel_rfl
theorem unlessQ_yes (w : World) : Calls Tryz.prog 70 #[.bool true] w fun e w' => e = .returned (.tuple #[]) ∧ w' = w := by
 go_enter Tryz.func70, Tryz.ntmps70
 go_wp2
 go_end0
 exact ⟨rfl, rfl⟩
theorem unlessQ_no (w : World) : Calls Tryz.prog 70 #[.bool false] w fun e w' => e = .panicked (Stop 164) ∧ w' = w := by
 go_enter Tryz.func70, Tryz.ntmps70
 go_wp2
 exact ⟨rfl, rfl, rfl⟩
theorem own_empty (W : World) (base e sz : Nat) (hb : base ≤ W.heap.size) : (W.alloc (.cells #[] e)).ownsRow base e sz (.slice (some ⟨W.heap.size, 0, none⟩) 0 0) 0 [] := by
 have h := World.ownsRow_lit (base := base) (e := e) (size := sz) W #[] 0 hb (by simp [maxLen]) (by simp)
 simpa using h
theorem R_empty {α : Type} (d : Kd α) (W : World) (base e : Nat) (hb : base ≤ W.heap.size) : d.R e (W.alloc (.cells #[] e)) base (fun _ => True) (.slice (some ⟨W.heap.size, 0, none⟩) 0 0) [] :=
 ⟨fun _ _ => trivial, [], own_empty W base e d.sz hb, Reps.none _ _⟩
theorem R_parts {α : Type} {d : Kd α} {e base : Nat} {W : World} {ok : Nat → Prop} {v : Value} {xs : List α} (h : d.R e W base ok v xs) : ∃ A n c, v = .slice A n c ∧ Aside0 (n = xs.length) := by
 obtain ⟨A, c, e⟩ := Kd.R_slice h
 exact ⟨A, _, c, e, ⟨rfl⟩⟩
theorem clone_ops (A : Option Addr) (c : Nat) (xs : List BOp) (w : World) (hC : kOp.C w A xs.length xs) (hl : xs.length ≤ 1048576) :
  Calls Tryz.prog 142 #[.slice A xs.length c] w fun e w' => ∃ v, e = .returned v ∧ kOp.R 64 w' w.heap.size (fun _ => True) v xs ∧ Below w.heap.size w w' := by
 have q42 : ∀ (w : World) (a : Option Addr) (n c n' c' : Nat), (binOp .eql 42 (.slice a n c) (.slice none n' c')).run Tryz.prog w = .ok (.bool a.isNone) w := fun w a n c n' c' => Lib.run_eql_slice_nil w _ _ a n c n' c' Tryz.underlying42
 have HC := Amk hC
 have HL := Amk hl
 cases A with
 | none =>
  have hx : xs = [] := by
   rcases xs with _ | ⟨x, xs⟩
   ·
    rfl
   ·
    obtain ⟨ad, h, _⟩ := hC.2.2 (by simp)
    cases h
  subst hx
  clear hC hl HC
  go_enter Tryz.func142, Tryz.ntmps142
  go_wp2
  go_ret
  exact ⟨_, rfl, Kd.R_nil _ _ _ _ _, Below.refl _ _⟩
 | some ad =>
  clear hC hl
  obtain ⟨m, hm⟩ : ∃ m, m = xs.length := ⟨_, rfl⟩
  have HM := Amk hm
  rw [← hm]
  rw [← hm] at HC
  clear hm
  go_enter Tryz.func142, Tryz.ntmps142
  go_wp2_with ((with_reducible refine gate_builtin (b := .append) (xs := #[.tmp 5, .tmp 6]) rfl ?_); at_builtin; refine Kd.R_append_rows kOp (Rr := kOp.K w) (w0 := w) w.heap.size rfl (.tmp 5) (.tmp 6) 42 64 _ 144 rfl Tryz.underlying42 info64 rfl (by decide) (by decide) (.slice (some ⟨w.heap.size, 0, none⟩) 0 0) [] xs (some ad) m c (fun _ => True) (fun _ => False) rfl rfl (R_empty kOp w w.heap.size 64 (Nat.le_refl _)) (ReadsRow.imp_ (HM.out ▸ HC.out) (bal (Below.refl _ _) _) (fun _ _ h => h)) (fun _ _ h => h) (fun _ hk => hk.elim) (fun _ _ => trivial) (bal (Below.refl _ _) _) (by simp) (by have := HL.out; have := HM.out; simp only [List.length_nil]; omega) ?_; intro v1 w1 hr hb hg hat; have HR1 := Amk hr; have HB1 := Amk hb; clear hr hb hg hat; obtain ⟨A1, n1, c1, rfl, HN1⟩ := R_parts HR1.out)
  go_ret
  exact ⟨_, rfl, by simpa using HR1.out, HB1.out⟩
theorem clone_ints (A : Option Addr) (c : Nat) (xs : List Int) (w : World) (hC : (Kd.int .i64).C w A xs.length xs) (hl : xs.length ≤ 1048576) :
  Calls Tryz.prog 121 #[.slice A xs.length c] w fun e w' => ∃ v, e = .returned v ∧ (Kd.int .i64).R 3 w' w.heap.size (fun _ => True) v xs ∧ Below w.heap.size w w' := by
 have q43 : ∀ (w : World) (a : Option Addr) (n c n' c' : Nat), (binOp .eql 43 (.slice a n c) (.slice none n' c')).run Tryz.prog w = .ok (.bool a.isNone) w := fun w a n c n' c' => Lib.run_eql_slice_nil w _ _ a n c n' c' Tryz.underlying43
 have HC := Amk hC
 have HL := Amk hl
 cases A with
 | none =>
  have hx : xs = [] := by
   rcases xs with _ | ⟨x, xs⟩
   ·
    rfl
   ·
    obtain ⟨ad, h, _⟩ := hC.2.2 (by simp)
    cases h
  subst hx
  clear hC hl HC
  go_enter Tryz.func121, Tryz.ntmps121
  go_wp2
  go_ret
  exact ⟨_, rfl, Kd.R_nil _ _ _ _ _, Below.refl _ _⟩
 | some ad =>
  clear hC hl
  obtain ⟨m, hm⟩ : ∃ m, m = xs.length := ⟨_, rfl⟩
  have HM := Amk hm
  rw [← hm]
  rw [← hm] at HC
  clear hm
  go_enter Tryz.func121, Tryz.ntmps121
  go_wp2_with ((with_reducible refine gate_builtin (b := .append) (xs := #[.tmp 5, .tmp 6]) rfl ?_); at_builtin; refine Kd.R_append_rows (Kd.int .i64) (Rr := (Kd.int .i64).K w) (w0 := w) w.heap.size rfl (.tmp 5) (.tmp 6) 43 3 _ 8 rfl Tryz.underlying43 info3 rfl (by decide) (by decide) (.slice (some ⟨w.heap.size, 0, none⟩) 0 0) [] xs (some ad) m c (fun _ => True) (fun _ => False) rfl rfl (R_empty (Kd.int .i64) w w.heap.size 3 (Nat.le_refl _)) (ReadsRow.imp_ (HM.out ▸ HC.out) (bal (Below.refl _ _) _) (fun _ _ h => h)) (fun _ _ h => h) (fun _ hk => hk.elim) (fun _ _ => trivial) (bal (Below.refl _ _) _) (by simp) (by have := HL.out; have := HM.out; simp only [List.length_nil]; omega) ?_; intro v1 w1 hr hb hg hat; have HR1 := Amk hr; have HB1 := Amk hb; clear hr hb hg hat; obtain ⟨A1, n1, c1, rfl, HN1⟩ := R_parts HR1.out)
  go_ret
  exact ⟨_, rfl, by simpa using HR1.out, HB1.out⟩
theorem clone_props (A : Option Addr) (c : Nat) (w : World) :
  Calls Tryz.prog 143 #[.slice A 0 c] w fun e w' => ∃ A' c', e = .returned (.slice A' 0 c') ∧ Below w.heap.size w w' := by
 have q60 : ∀ (w : World) (a : Option Addr) (n c n' c' : Nat), (binOp .eql 60 (.slice a n c) (.slice none n' c')).run Tryz.prog w = .ok (.bool a.isNone) w := fun w a n c n' c' => Lib.run_eql_slice_nil w _ _ a n c n' c' Tryz.underlying60
 cases A with
 | none =>
  go_enter Tryz.func143, Tryz.ntmps143
  go_wp2
  go_ret
  exact ⟨_, _, rfl, Below.refl _ _⟩
 | some ad =>
  go_enter Tryz.func143, Tryz.ntmps143
  go_wp2_with ((with_reducible refine gate_builtin (b := .append) (xs := #[.tmp 5, .tmp 6]) rfl ?_); at_builtin; refine Kd.R_append_rows K.k181 (Rr := fun _ _ => False) (w0 := w) w.heap.size rfl (.tmp 5) (.tmp 6) 60 181 _ 56 rfl Tryz.underlying60 info181 rfl (by decide) (by decide) (.slice (some ⟨w.heap.size, 0, none⟩) 0 0) [] [] (some ad) 0 c (fun _ => True) (fun _ => False) rfl rfl (R_empty K.k181 w w.heap.size 181 (Nat.le_refl _)) ⟨rfl, by simp, fun h => absurd h (Nat.lt_irrefl 0)⟩ (fun _ _ h => h.elim) (fun _ hk => hk.elim) (fun _ _ => trivial) (bal (Below.refl _ _) _) (by simp) (by simp) ?_; intro v1 w1 hr hb hg hat; have HB1 := Amk hb; obtain ⟨A1, c1, hv⟩ := Kd.R_slice hr; simp only [List.append_nil, List.length_nil] at hv; subst hv; clear hr hb hg hat)
  go_ret
  exact ⟨_, _, rfl, HB1.out⟩
theorem ops_calls (A : Option Addr) (c : Nat) (xs : List BOp) (w : World) (hC : kOp.C w A xs.length xs) (hl : xs.length ≤ 1048576) :
  Calls Tryz.prog 84 #[.slice A xs.length c] w fun e w' => ∃ v, e = .returned v ∧ kOp.R 64 w' w.heap.size (fun _ => True) v xs ∧ Below w.heap.size w w' := by
 have HC := Amk (clone_ops A c xs w hC hl)
 have HL := Amk hl
 clear hC hl
 obtain ⟨m, hm⟩ : ∃ m, m = xs.length := ⟨_, rfl⟩
 have HM := Amk hm
 rw [← hm]
 rw [← hm] at HC
 clear hm
 go_enter Tryz.func84, Tryz.ntmps84
 go_wp2_with (go_at_call 142; refine HC.out.mono ?_; rintro e w1 ⟨v, rfl, hr, hb⟩; have HR := Amk hr; have HB := Amk hb; clear hr hb; obtain ⟨A1, n1, c1, rfl, HN1⟩ := R_parts HR.out)
 go_loopg [9] n1 (fun kq vi wr => ∃ j : Nat, vi = .int .i64 j ∧ j + kq = n1 ∧ Aside0 (kOp.R 64 wr w.heap.size (fun _ => True) (.slice A1 n1 c1) xs) ∧ Aside0 (Below w.heap.size w wr))
 case atStart => exact ⟨0, rfl, by omega, HR, HB⟩
 case round =>
  obtain ⟨j, rfl, hj, HR2, HB2⟩ := hrel
  clear HR HB
  cases gk with
  | zero =>
   have hge : decide ((j : Int) < (n1 : Int)) = false := decide_eq_false (by omega)
   go_wp2_with fail
   go_ret
   exact ⟨_, rfl, HR2.out, HB2.out⟩
  | succ g =>
   have hlt : decide ((j : Int) < (n1 : Int)) = true := decide_eq_true (by omega)
   have hjb : j < 1048576 := by have := HL.out; have := HN1.out; omega
   obtain ⟨bg, cap, hv, _, _, _⟩ := Kd.R_form HR2.out (by have := HN1.out; omega)
   injection hv with hA hn hcap
   subst hA
   obtain ⟨cs, hcl, ⟨Ap, cp, rfl⟩, hcc, hz⟩ := Kd.R_elem HR2.out zOp (j : Int) (by omega) (by omega)
   have hcell : wr.cell? ⟨bg, j * 14 + 11, none⟩ = some (.slice Ap 0 cp) := hcc 11 _ rfl
   have HX := Amk (And.intro hcc hz)
   clear hcc hz hcl hn hcap
   have hself : xs.set j (xs.getD j zOp) = xs := by
    have hlt2 : j < xs.length := by have := HN1.out; omega
    rw [show xs.getD j zOp = xs[j] by simp [hlt2]]
    exact List.set_getElem_self hlt2
   have HSE := Amk hself
   clear hself
   go_wp2_with (first
    | (go_at_call 143; refine (clone_props Ap cp _).mono ?_; rintro e w2 ⟨A2, c2, rfl, hb⟩; have HB3 := Amk hb; clear hb)
    | ((with_reducible refine gate_store (t := 60) (p := 23) rfl ?_); refine Kd.R_store kOp (w0 := w) w.heap.size rfl rfl 60 (.tmp 23) (.tmp 20) rfl 64 (g := bg) (n := n1) (cap := c1) (o' := j * 14 + 9 + 2) (j : Int) 11 xs (xs.getD j zOp) (.slice A2 0 c2) [.slice A2 0 c2] (opCells (xs.getD j zOp) Ap cp) (fun _ => True) (fun _ => False) rfl (by show _ = (j : Int).toNat * 14 + 11; simp only [Int.toNat_natCast]) rfl rfl (by kernel_rfl) (by simp [Value.oneCell']) (Kd.R_below HR2.out HB3.out) (by omega) (by omega) rfl (fun q u hu => (HB3.out.cell (World.block_lt_of_cell? _ _ (HX.out.1 q u hu))).trans (HX.out.1 q u hu)) (by show 11 + 1 ≤ 14; omega) ⟨A2, c2, rfl⟩ (fun _ hk => hk.elim) (bth HB2.out HB2.out.size HB3.out) ?_; intro w3 hr hb hg; rw [Int.toNat_natCast, HSE.out] at hr; have HR3 := Amk hr; have HB4 := Amk hb; clear hr hb hg))
   go_roundg g
   case rel => exact ⟨j + 1, by go_num, by omega, HR3, HB4⟩
   case measure => omega
theorem R_wrote {α : Type} {d : Kd α} {e base g t : Nat} {v : Value} {xs : List α} {W W1 : World} {cur cs : Array Value} (h : d.R e W base (fun _ => True) v xs) (hw : Wrote W W1 g cs t) (hb : W.heap[g]? = some (.cells cur t (0, 0))) (ht : ∀ q, q ∈ e :: d.E → q ≠ t) : d.R e W1 base (fun _ => True) v xs :=
 Kd.R_mono (Kd.R_grown (Kd.R_types h hb ht) hw.grown (fun k hk he => hk.2 (by injection he))) (fun _ _ => trivial)
structure Mq where
 rest : ByteArray
 up : Bool
 down : Bool
 client : ByteArray
 clean : Bool
 will : List BOp
 codes : List Int
def mqCells (s : Mq) (vW vC : Value) : Array Value := #[.string s.rest, .bool s.up, .bool s.down, .string s.client, .bool s.clean, vW, vC]
structure MqIn (w : World) (s : Mq) (AW : Option Addr) (cW : Nat) (AC : Option Addr) (cC : Nat) : Prop where
 will : kOp.C w AW s.will.length s.will
 willc : s.will.length ≤ cW
 codes : (Kd.int .i64).C w AC s.codes.length s.codes
 codesc : s.codes.length ≤ cC
 wl : s.will.length ≤ 1048576
 cl : s.codes.length ≤ 1048576
def mqAgg (s : Mq) (AW : Option Addr) (cW : Nat) (AC : Option Addr) (cC : Nat) : Value := .agg (mqCells s (.slice AW s.will.length cW) (.slice AC s.codes.length cC))
structure MqAt (w0 W : World) (o : Nat) (s : Mq) (vW vC : Value) : Prop where
 blk : W.heap[o]? = some (.cells (mqCells s vW vC) 45 (0, 0))
 will : kOp.R 64 W w0.heap.size (fun _ => True) vW s.will
 codes : (Kd.int .i64).R 3 W w0.heap.size (fun _ => True) vC s.codes
 bo : w0.heap.size ≤ o
theorem copied_calls (s : Mq) (AW : Option Addr) (cW : Nat) (AC : Option Addr) (cC : Nat) (w : World) (h : MqIn w s AW cW AC cC) :
  Calls Tryz.prog 67 #[mqAgg s AW cW AC cC] w fun e w' => ∃ vW vC, e = .returned (.agg (mqCells s vW vC)) ∧ kOp.R 64 w' w.heap.size (fun _ => True) vW s.will ∧ (Kd.int .i64).R 3 w' w.heap.size (fun _ => True) vC s.codes ∧ Below w.heap.size w w' := by
 have HW : Aside0 (∀ W, Below w.heap.size w W → Calls Tryz.prog 84 #[.slice AW s.will.length cW] W fun e w' => ∃ v, e = .returned v ∧ kOp.R 64 w' W.heap.size (fun _ => True) v s.will ∧ Below W.heap.size W w') := ⟨fun W hW => ops_calls AW cW s.will W (Kd.C_below h.will hW) h.wl⟩
 have HC : Aside0 (∀ W, Below w.heap.size w W → Calls Tryz.prog 121 #[.slice AC s.codes.length cC] W fun e w' => ∃ v, e = .returned v ∧ (Kd.int .i64).R 3 w' W.heap.size (fun _ => True) v s.codes ∧ Below W.heap.size W w') := ⟨fun W hW => clone_ints AC cC s.codes W (Kd.C_below h.codes hW) h.cl⟩
 clear h
 obtain ⟨rest, up, down, client, clean, will, codes⟩ := s
 simp only [mqAgg, mqCells] at *
 generalize will.length = nW at *
 generalize codes.length = nC at *
 have HBX := Amk (bka (heap_alloc_new w (.cells #[.string rest, .bool up, .bool down, .string client, .bool clean, .slice AW nW cW, .slice AC nC cC] 45)) (.cells #[.string ⟨#[]⟩, .bool false, .bool false, .string ⟨#[]⟩, .bool false, .slice none 0 0, .slice none 0 0] 45))
 go_enter Tryz.func67, Tryz.ntmps67
 go_upto_region 1 with (fail)
 go_cut [] (fun wx => ∃ AW' nW' cW' AC' nC' cC', Aside0 (wx.heap[w.heap.size]? = some (.cells #[.string rest, .bool up, .bool down, .string client, .bool clean, .slice AW' nW' cW', .slice AC' nC' cC'] 45)) ∧ Aside0 (kOp.R 64 wx w.heap.size (fun _ => True) (.slice AW' nW' cW') will) ∧ Aside0 ((Kd.int .i64).R 3 wx w.heap.size (fun _ => True) (.slice AC' nC' cC') codes) ∧ Aside0 (Below w.heap.size w wx) ∧ Aside0 (wx.heap[w.heap.size + 1]? = some (.cells #[.string ⟨#[]⟩, .bool false, .bool false, .string ⟨#[]⟩, .bool false, .slice none 0 0, .slice none 0 0] 45)))
 case first =>
  have HB0 : Aside0 (Below w.heap.size w (((w.alloc (.cells #[.string rest, .bool up, .bool down, .string client, .bool clean, .slice AW nW cW, .slice AC nC cC] 45)).alloc (.cells #[.string ⟨#[]⟩, .bool false, .bool false, .string ⟨#[]⟩, .bool false, .slice none 0 0, .slice none 0 0] 45)).drew)) := ⟨bdr (bal (bal (Below.refl _ _) _) _)⟩
  have HBY : Aside0 (((w.alloc (.cells #[.string rest, .bool up, .bool down, .string client, .bool clean, .slice AW nW cW, .slice AC nC cC] 45)).alloc (.cells #[.string ⟨#[]⟩, .bool false, .bool false, .string ⟨#[]⟩, .bool false, .slice none 0 0, .slice none 0 0] 45)).heap[w.heap.size + 1]? = some (.cells #[.string ⟨#[]⟩, .bool false, .bool false, .string ⟨#[]⟩, .bool false, .slice none 0 0, .slice none 0 0] 45)) := ⟨by have := heap_alloc_new (w.alloc (.cells #[.string rest, .bool up, .bool down, .string client, .bool clean, .slice AW nW cW, .slice AC nC cC] 45)) (.cells #[.string ⟨#[]⟩, .bool false, .bool false, .string ⟨#[]⟩, .bool false, .slice none 0 0, .slice none 0 0] 45); rwa [World.size_alloc] at this⟩
  go_region_with (first
   | (go_at_call 84; refine (HW.out _ HB0.out).mono ?_; rintro e w1 ⟨v1, rfl, hr, hb⟩; have HR1 := Amk hr; have HB1 := Amk hb; clear hr hb; obtain ⟨A1, n1, c1, rfl, HN1⟩ := R_parts HR1.out; have HBX1 := Amk ((HB1.out.block w.heap.size (by (try simp) <;> (try omega))).trans HBX.out); have HBY1 := Amk ((HB1.out.block (w.heap.size + 1) (by (try simp) <;> (try omega))).trans HBY.out); have c6 : w1.cell? ⟨w.heap.size, 6, none⟩ = some (.slice AC nC cC) := (bqc HBX1.out 6).trans rfl)
   | (go_at_call 121; refine (HC.out _ (bth HB0.out (by (try simp) <;> (try omega)) HB1.out)).mono ?_; rintro e w2 ⟨v2, rfl, hr, hb⟩; have HR2 := Amk hr; have HB2 := Amk hb; clear hr hb; obtain ⟨A2, n2, c2, rfl, HN2⟩ := R_parts HR2.out; have HBX2 := Amk ((HB2.out.block w.heap.size (blt HBX1.out)).trans HBX1.out); have HBY2 := Amk ((HB2.out.block (w.heap.size + 1) (blt HBY1.out)).trans HBY1.out); have c5 : w2.cell? ⟨w.heap.size, 5, none⟩ = some (.slice AW nW cW) := (bqc HBX2.out 5).trans rfl; have c6' : w2.cell? ⟨w.heap.size, 6, none⟩ = some (.slice AC nC cC) := (bqc HBX2.out 6).trans rfl; have z5 := blk_frozen HBX2.out 5; have z6 := blk_frozen HBX2.out 6))
  all_goals go_wp2_with fail
  all_goals go_meet
  all_goals have HB3 := bth (bth HB0.out (by (try simp) <;> (try omega)) HB1.out) (Nat.le_trans (by (try simp) <;> (try omega)) HB1.out.size) HB2.out
  all_goals exact ⟨A1, n1, c1, A2, n2, c2, ⟨by simpa using blk_set (blk_set HBX2.out 5 (.slice A1 n1 c1)) 6 (.slice A2 n2 c2)⟩, ⟨Kd.R_set (Kd.R_set (Kd.R_lower (Kd.R_below HR1.out HB2.out) (by (try simp) <;> (try omega))) HBX2.out (by decide) 5 _) (blk_set HBX2.out 5 (.slice A1 n1 c1)) (by decide) 6 _⟩, ⟨Kd.R_set (Kd.R_set (Kd.R_lower HR2.out (Nat.le_trans (by (try simp) <;> (try omega)) HB1.out.size)) HBX2.out (by decide) 5 _) (blk_set HBX2.out 5 (.slice A1 n1 c1)) (by decide) 6 _⟩, ⟨below_set (below_set HB3 (Nat.le_refl _)) (Nat.le_refl _)⟩, ⟨blk_far (blk_far HBY2.out (by show w.heap.size + 1 ≠ w.heap.size; omega) _) (by show w.heap.size + 1 ≠ w.heap.size; omega) _⟩⟩
 case rest =>
  obtain ⟨A1, n1, c1, A2, n2, c2, HX, HR1, HR2, HB, HY⟩ := hcut
  clear HBX
  go_wp2_with (first | ((with_reducible refine gate_dst (N := 11) rfl ?_); refine wpList_load_row rfl 45 (.tmp 1) rfl w.heap.size rfl 45 (#[.string rest, .bool up, .bool down, .string client, .bool clean, .slice A1 n1 c1, .slice A2 n2 c2]) (0, 0) _ HX.out Tryz.underlying45 rfl (by kernel_rfl) ?_) | ((with_reducible refine gate_store (t := 45) (p := 2) rfl ?_); refine wpList_store_blk 45 (.tmp 2) (.tmp 11) rfl rfl rfl (g := w.heap.size + 1) (e := 45) (.agg #[.string rest, .bool up, .bool down, .string client, .bool clean, .slice A1 n1 c1, .slice A2 n2 c2]) [.string rest, .bool up, .bool down, .string client, .bool clean, .slice A1 n1 c1, .slice A2 n2 c2] rfl rfl rfl HY.out (by kernel_rfl) rfl (by simp [Value.oneCell']) ?_; intro W1 hw; have HW1 := Amk hw; clear hw))
  refine bodyPost_ret (results_cell_row rfl _ _ (w.heap.size + 1) 45 (#[.string rest, .bool up, .bool down, .string client, .bool clean, .slice A1 n1 c1, .slice A2 n2 c2]) (0, 0) _ rfl HW1.out.blk Tryz.underlying45 rfl (by kernel_rfl)) rfl ?_
  exact ⟨_, _, rfl, R_wrote HR1.out HW1.out HY.out (by decide), R_wrote HR2.out HW1.out HY.out (by decide), HW1.out.below HB.out HB.out.size (Nat.le_succ _)⟩
theorem R_over57 {α : Type} {d : Kd α} {e base base' : Nat} {v u : Value} {xs : List α} {acts : List BAct} {W W1 : World} (h : d.R e W base (fun _ => True) v xs) (hu : kAct.R 57 W base' (fun _ => True) u acts) (hg : W.grownBy W1 u.ownBlock) (ht : ∀ q, q ∈ e :: d.E → q ≠ 57) : d.R e W1 base (fun _ => True) v xs :=
 Kd.R_over' h (Kd.R_typed hu) ht hg
structure Fr (w0 W : World) (f o : Nat) (s : Mq) (conn : Int) (acts : List BAct) (vW vC vA : Value) : Prop where
 fb : W.heap[f]? = some (.cells #[.pointer (some ⟨o, 0, none⟩), .int .i64 conn, vA] 106 (0, 0))
 own : MqAt w0 W o s vW vC
 row : kAct.R 57 W w0.heap.size (fun _ => True) vA acts
 bf : w0.heap.size ≤ f
 bel : Below w0.heap.size w0 W
def FrK (f o : Nat) (vA vC : Value) : Nat → Prop := fun k => k = f ∨ k = o ∨ some k = vA.ownBlock ∨ some k = vC.ownBlock
structure Went (w w' : World) (f o : Nat) (vA vC vA' vC' : Value) : Prop where
 kept : Kept w w' (FrK f o vA vC)
 atA : vA'.ownBlock = vA.ownBlock ∨ ∃ b, vA'.ownBlock = some b ∧ w.heap.size ≤ b
 atC : vC'.ownBlock = vC.ownBlock ∨ vC'.ownBlock = none ∨ ∃ b, vC'.ownBlock = some b ∧ w.heap.size ≤ b
namespace Went
variable {w w1 w2 : World} {f o : Nat} {vA vC vA1 vC1 vA2 vC2 : Value}
theorem refl (w : World) (f o : Nat) (vA vC : Value) : Went w w f o vA vC vA vC := ⟨Kept.refl _ _, .inl rfl, .inl rfl⟩
theorem trans (h : Went w w1 f o vA vC vA1 vC1) (k : Went w1 w2 f o vA1 vC1 vA2 vC2) : Went w w2 f o vA vC vA2 vC2 := by
 have hs : w.heap.size ≤ w1.heap.size := h.kept.1
 refine ⟨h.kept.then_ k.kept (fun b hb => ?_), ?_, ?_⟩
 ·
  rcases hb with rfl | rfl | hb | hb
  ·
   exact .inl (.inl rfl)
  ·
   exact .inl (.inr (.inl rfl))
  ·
   rcases h.atA with e | ⟨c, e, hc⟩
   ·
    exact .inl (.inr (.inr (.inl (hb.trans e))))
   ·
    rw [e] at hb; injection hb with hb; subst hb; exact .inr hc
  ·
   rcases h.atC with e | e | ⟨c, e, hc⟩
   ·
    exact .inl (.inr (.inr (.inr (hb.trans e))))
   ·
    rw [e] at hb; cases hb
   ·
    rw [e] at hb; injection hb with hb; subst hb; exact .inr hc
 ·
  rcases k.atA with e | ⟨c, e, hc⟩
  ·
   rcases h.atA with e2 | ⟨c, e2, hc⟩
   ·
    exact .inl (e.trans e2)
   ·
    exact .inr ⟨c, e.trans e2, hc⟩
  ·
   exact .inr ⟨c, e, Nat.le_trans hs hc⟩
 ·
  rcases k.atC with e | e | ⟨c, e, hc⟩
  ·
   rcases h.atC with e2 | e2 | ⟨c, e2, hc⟩
   ·
    exact .inl (e.trans e2)
   ·
    exact .inr (.inl (e.trans e2))
   ·
    exact .inr (.inr ⟨c, e.trans e2, hc⟩)
  ·
   exact .inr (.inl e)
  ·
   exact .inr (.inr ⟨c, e, Nat.le_trans hs hc⟩)
theorem below (h : Went w w1 f o vA vC vA1 vC1) (hb : Below w1.heap.size w1 w2) : Went w w2 f o vA vC vA1 vC1 := ⟨h.kept.below hb, h.atA, h.atC⟩
theorem after (hb : Below w.heap.size w w1) (h : Went w1 w2 f o vA vC vA1 vC1) : Went w w2 f o vA vC vA1 vC1 := by
 have := (refl w f o vA vC).below hb
 exact this.trans h
end Went
namespace Fr
variable {w0 W W1 : World} {f o : Nat} {s : Mq} {conn : Int} {acts : List BAct} {vW vC vA : Value}
theorem below (h : Fr w0 W f o s conn acts vW vC vA) (hb : Below W.heap.size W W1) : Fr w0 W1 f o s conn acts vW vC vA :=
 ⟨(hb.block f (blt h.fb)).trans h.fb, ⟨(hb.block o (blt h.own.blk)).trans h.own.blk, Kd.R_below h.own.will hb, Kd.R_below h.own.codes hb, h.own.bo⟩, Kd.R_below h.row hb, h.bf, bth h.bel (Nat.le_trans h.bf (Nat.le_of_lt (blt h.fb))) hb⟩
theorem drew (h : Fr w0 W f o s conn acts vW vC vA) : Fr w0 W.drew f o s conn acts vW vC vA := h.below (bdr (Below.refl _ _))
theorem alloc (h : Fr w0 W f o s conn acts vW vC vA) (b : Obj) : Fr w0 (W.alloc b) f o s conn acts vW vC vA := h.below (bal (Below.refl _ _) b)
theorem sz (h : Fr w0 W f o s conn acts vW vC vA) : w0.heap.size ≤ W.heap.size := Nat.le_trans h.bf (Nat.le_of_lt (blt h.fb))
theorem fo (h : Fr w0 W f o s conn acts vW vC vA) : f ≠ o := blk_ne h.fb h.own.blk (by decide)
theorem c0 (h : Fr w0 W f o s conn acts vW vC vA) : W.cell? ⟨f, 0, none⟩ = some (.pointer (some ⟨o, 0, none⟩)) := (bqc h.fb 0).trans rfl
theorem c1 (h : Fr w0 W f o s conn acts vW vC vA) : W.cell? ⟨f, 1, none⟩ = some (.int .i64 conn) := (bqc h.fb 1).trans rfl
theorem c2 (h : Fr w0 W f o s conn acts vW vC vA) : W.cell? ⟨f, 2, none⟩ = some vA := (bqc h.fb 2).trans rfl
theorem cell (h : Fr w0 W f o s conn acts vW vC vA) (j : Nat) : W.cell? ⟨o, j, none⟩ = (mqCells s vW vC)[j]? := bqc h.own.blk j
theorem zf (h : Fr w0 W f o s conn acts vW vC vA) (j : Nat) : W.frozen? ⟨f, j, none⟩ = false := blk_frozen h.fb j
theorem zo (h : Fr w0 W f o s conn acts vW vC vA) (j : Nat) : W.frozen? ⟨o, j, none⟩ = false := blk_frozen h.own.blk j
theorem grown (h : Fr w0 W f o s conn acts vW vC vA) (hg : W.grownBy W1 vA.ownBlock) (hB : Below w0.heap.size w0 W1) :
  W1.heap[f]? = some (.cells #[.pointer (some ⟨o, 0, none⟩), .int .i64 conn, vA] 106 (0, 0)) ∧ MqAt w0 W1 o s vW vC :=
 ⟨blk_grown h.fb hg (Kd.R_ne h.row h.fb (by decide)), blk_grown h.own.blk hg (Kd.R_ne h.row h.own.blk (by decide)), R_over57 h.own.will h.row hg (by decide), R_over57 h.own.codes h.row hg (by decide), h.own.bo⟩
theorem push {a : BAct} {v1 : Value} (h : Fr w0 W f o s conn acts vW vC vA) (hg : W.grownBy W1 vA.ownBlock) (hB : Below w0.heap.size w0 W1) (hR : kAct.R 57 W1 w0.heap.size (fun _ => True) v1 (acts ++ [a])) :
  Fr w0 (W1.setCell ⟨f, 2, none⟩ v1) f o s conn (acts ++ [a]) vW vC v1 := by
 obtain ⟨hf, hm⟩ := h.grown hg hB
 have hne := h.fo
 exact ⟨by simpa using blk_set hf 2 v1, ⟨blk_far hm.blk (Ne.symm hne) _, Kd.R_set hm.will hf (by decide) 2 _, Kd.R_set hm.codes hf (by decide) 2 _, hm.bo⟩, Kd.R_set hR hf (by decide) 2 _, h.bf, below_set hB h.bf⟩
theorem pushed {v1 : Value} (h : Fr w0 W f o s conn acts vW vC vA) (hg : W.grownBy W1 vA.ownBlock) (hat : v1.ownBlock = vA.ownBlock ∨ ∃ b, v1.ownBlock = some b ∧ W.heap.size ≤ b) : Went W (W1.setCell ⟨f, 2, none⟩ v1) f o vA vC v1 vC :=
 ⟨(Kept.of_grown hg (Kept.refl _ _) (fun k hk => .inl (.inr (.inr (.inl hk.symm))))).setCell (.inl (.inl rfl)) _, hat, .inl rfl⟩
theorem setO {s' : Mq} {vW' vC' : Value} (h : Fr w0 W f o s conn acts vW vC vA) (j : Nat) (v : Value) (hq : (mqCells s vW vC).setIfInBounds j v = mqCells s' vW' vC') (hW : kOp.R 64 W w0.heap.size (fun _ => True) vW' s'.will) (hC : (Kd.int .i64).R 3 W w0.heap.size (fun _ => True) vC' s'.codes) :
  Fr w0 (W.setCell ⟨o, j, none⟩ v) f o s' conn acts vW' vC' vA :=
 ⟨blk_far h.fb h.fo _, ⟨by rw [← hq]; exact blk_set h.own.blk j v, Kd.R_set hW h.own.blk (by decide) j _, Kd.R_set hC h.own.blk (by decide) j _, h.own.bo⟩, Kd.R_set h.row h.own.blk (by decide) j _, h.bf, below_set h.bel h.own.bo⟩
theorem seto (h : Fr w0 W f o s conn acts vW vC vA) (j : Nat) (v : Value) : Went W (W.setCell ⟨o, j, none⟩ v) f o vA vC vA vC := ⟨(Kept.refl _ _).setCell (.inl (.inr (.inl rfl))) _, .inl rfl, .inl rfl⟩
end Fr
def FPost (w0 w : World) (f o : Nat) (conn : Int) (vA vC : Value) (stop : Bool) (s : Mq) (acts : List BAct) (e : Ending) (w' : World) : Prop :=
 e = (if stop = true then .panicked (Stop 164) else .returned (.tuple #[])) ∧ ∃ vW' vC' vA', Fr w0 w' f o s conn acts vW' vC' vA' ∧ Went w w' f o vA vC vA' vC'
def sayAct (b : List UInt8) : BAct := ⟨1, ⟨b.toArray⟩, [], 0, ⟨#[]⟩⟩
def doAct (ref : Int) (text : ByteArray) (ops : List BOp) : BAct := ⟨2, ⟨#[]⟩, ops, ref, text⟩
def endAct : BAct := ⟨3, ⟨#[]⟩, [], 0, ⟨#[]⟩⟩
def ended (s : Mq) : Mq := { s with down := true, rest := ⟨#[]⟩ }
theorem do_calls (w0 w : World) (f o : Nat) (s : Mq) (conn : Int) (acts : List BAct) (vW vC vA : Value) (h : Fr w0 w f o s conn acts vW vC vA) (hl : acts.length ≤ 1048576) (ref : Int) (text : ByteArray) (A : Option Addr) (c : Nat) (xs : List BOp) (hC : kOp.C w A xs.length xs) (hx : xs.length ≤ 1048576) :
  Calls Tryz.prog 126 #[.pointer (some ⟨f, 0, none⟩), .int .i64 ref, .string text, .slice A xs.length c] w (FPost w0 w f o conn vA vC false s (acts ++ [doAct ref text xs])) := by
 have HF := Amk h
 have HL := Amk hl
 have HO : Aside0 (Calls Tryz.prog 84 #[.slice A xs.length c] w.drew fun e w' => ∃ v, e = .returned v ∧ kOp.R 64 w' w.drew.heap.size (fun _ => True) v xs ∧ Below w.drew.heap.size w.drew w') := ⟨ops_calls A c xs w.drew (Kd.C_below hC (bdr (Below.refl _ _))) hx⟩
 clear h hl hC hx
 obtain ⟨AA, nA, cA, rfl, HNA⟩ := R_parts HF.out.row
 have cf := HF.out.c2
 generalize xs.length = nx at *
 go_enter Tryz.func126, Tryz.ntmps126
 refine wp_region_held_drew (S := fun _ => True) (by kernel_rfl) trivial (fun hHeld => ?_)
 refine tkH 0 ?_ hHeld ?_ ?_; rotate_left; focus (intro w_ hSw; (try dsimp only at hSw); go_simp; (try simp only [hSw]); (try rfl)); rotate_left; try simp only [Lga, Lgz, Lgs, Act.put, Lsa, Lsz, Lss]
 refine tkH 1 ?_ hHeld ?_ ?_; rotate_left; focus (intro w_ hSw; (try dsimp only at hSw); go_simp; (try simp only [hSw]); (try rfl)); rotate_left; try simp only [Lga, Lgz, Lgs, Act.put, Lsa, Lsz, Lss]
 refine tkH 2 ?_ hHeld ?_ ?_; rotate_left; focus (intro w_ hSw; (try dsimp only at hSw); go_simp; (try simp only [hSw]); (try rfl)); rotate_left; try simp only [Lga, Lgz, Lgs, Act.put, Lsa, Lsz, Lss]
 refine tkH 3 ?_ hHeld ?_ ?_; rotate_left; focus (intro w_ hSw; (try dsimp only at hSw); go_simp; (try simp only [hSw]); (try rfl)); rotate_left; try simp only [Lga, Lgz, Lgs, Act.put, Lsa, Lsz, Lss]
 refine tkH 5 ?_ hHeld ?_ ?_; rotate_left; focus (intro w_ hSw; (try dsimp only at hSw); go_simp; (try simp only [hSw]); (try rfl)); rotate_left; try simp only [Lga, Lgz, Lgs, Act.put, Lsa, Lsz, Lss]
 refine tkH 7 ?_ hHeld ?_ ?_; rotate_left; focus (intro w_ hSw; (try dsimp only at hSw); go_simp; (try simp only [hSw]); (try rfl)); rotate_left; try simp only [Lga, Lgz, Lgs, Act.put, Lsa, Lsz, Lss]
 refine tkH 8 ?_ hHeld ?_ ?_; rotate_left; focus (intro w_ hSw; (try dsimp only at hSw); go_simp; (try simp only [hSw]); (try rfl)); rotate_left; try simp only [Lga, Lgz, Lgs, Act.put, Lsa, Lsz, Lss]
 refine wpAnyH_ready (rs := [4, 6]) (by kernel_rfl) (by simp) ?_
 refine AllReadyH.cons rfl (fun K hK => ?_) (AllReadyH.cons rfl (fun K hK => ?_) AllReadyH.nil)
 ·
  go_simp
  (first | refine hK.out _ _ trivial (fun hHeld => ?_) | refine hK _ _ trivial (fun hHeld => ?_)); try simp only [Lga, Lgz, Lgs, Act.put, Lsa, Lsz, Lss]
  refine wpAnyH_ready (rs := [6]) (by kernel_rfl) (by simp) ?_
  refine AllReadyH.cons rfl (fun K hK => ?_) AllReadyH.nil
  ·
   go_wp2_with (go_at_call 84; refine HO.out.mono ?_; rintro e w1 ⟨v1, rfl, hr, hb⟩; have HR1 := Amk hr; have HB1 := Amk hb; clear hr hb; obtain ⟨A1, n1, c1, rfl, HN1⟩ := R_parts HR1.out; have HF1 := Amk (HF.out.drew.below HB1.out); have cf1 := HF1.out.c2; have cf2 := (HF1.out.alloc (.cells #[.int .i64 2, .string ⟨#[]⟩, .slice A1 n1 c1, .int .i64 ref, .string text] 57)).c2)
   (first | refine hK.out _ _ trivial (fun hHeld => ?_) | refine hK _ _ trivial (fun hHeld => ?_)); try simp only [Lga, Lgz, Lgs, Act.put, Lsa, Lsz, Lss]
   refine tkH 9 ?_ hHeld ?_ ?_; rotate_left; focus (intro w_ hSw; (try dsimp only at hSw); go_simp; (try simp only [hSw]); (try rfl)); rotate_left; try simp only [Lga, Lgz, Lgs, Act.put, Lsa, Lsz, Lss]
   refine wpAnyH_ready (rs := [10]) (by kernel_rfl) (by simp) ?_
   refine AllReadyH.cons rfl (fun K hK => ?_) AllReadyH.nil
   ·
    go_simp
    (first | refine hK.out _ _ trivial (fun hHeld => ?_) | refine hK _ _ trivial (fun hHeld => ?_)); try simp only [Lga, Lgz, Lgs, Act.put, Lsa, Lsz, Lss]
    refine wpAnyH_ready (rs := [11]) (by kernel_rfl) (by simp) ?_
    refine AllReadyH.cons rfl (fun K hK => ?_) AllReadyH.nil
    ·
     refine Kd.R_append_step kAct (w0 := w0) w0.heap.size rfl (.tmp 12) (.tmp 18) 46 57 _ 72 rfl Tryz.underlying46 info57 rfl (by decide) (by decide) (.slice AA nA cA) acts (doAct ref text xs) [.int .i64 2, .string ⟨#[]⟩, .slice A1 n1 c1, .int .i64 ref, .string text] (fun _ => True) (fun k => True ∧ some k ≠ (Value.slice AA nA cA).ownBlock) rfl rfl (kAct_mkM w1 _ _ (doAct ref text xs) (Kd.R_apart' (Kd.R_lower HR1.out HF.out.drew.sz) (Kd.R_typed HF1.out.row) (by decide))) (fun _ hk => hk) (fun _ _ => trivial) HF1.out.row HF1.out.bel HF1.out.sz (by have := HL.out; omega) ?_; intro v2 w2 hR hB hG hat; have HR2 := Amk hR; have HB2 := Amk hB; have HG2 := Amk hG; have HAT2 := Amk hat; clear hR hB hG hat; obtain ⟨A2, n2, c2, rfl, HN2⟩ := R_parts HR2.out; have HM2 := Amk (HF1.out.grown HG2.out HB2.out); have zf := blk_frozen HM2.out.1 2; have cz := (bqc HM2.out.1 2).trans (show _ = some (Value.slice AA nA cA) from rfl)
     (first | refine hK.out _ _ trivial (fun hHeld => ?_) | refine hK _ _ trivial (fun hHeld => ?_)); try simp only [Lga, Lgz, Lgs, Act.put, Lsa, Lsz, Lss]
     refine tkH 12 ?_ hHeld ?_ ?_; rotate_left; focus (intro w_ hSw; (try dsimp only at hSw); go_simp; (try simp only [hSw]); (try rfl)); rotate_left; try simp only [Lga, Lgz, Lgs, Act.put, Lsa, Lsz, Lss]
     refine tkH 13 ?_ hHeld ?_ ?_; rotate_left; focus (intro w_ hSw; (try dsimp only at hSw); go_simp; (try simp only [hSw]); (try rfl)); rotate_left; try simp only [Lga, Lgz, Lgs, Act.put, Lsa, Lsz, Lss]
     refine wpAnyH_ready (rs := [14]) (by kernel_rfl) (by simp) ?_
     refine AllReadyH.cons rfl (fun K hK => ?_) AllReadyH.nil
     ·
      go_simp
      (first | refine hK.out _ _ trivial (fun hHeld => ?_) | refine hK _ _ trivial (fun hHeld => ?_)); try simp only [Lga, Lgz, Lgs, Act.put, Lsa, Lsz, Lss]
      refine wpAnyH_done (by kernel_rfl) ?_ _
      clear hK K
      go_end0
      exact ⟨rfl, _, _, _, HF1.out.push HG2.out HB2.out HR2.out, Went.after (bth (bdr (Below.refl _ _)) (Nat.le_refl _) HB1.out) (HF1.out.pushed HG2.out HAT2.out)⟩
 ·
  go_wp2_with (go_at_call 84; refine HO.out.mono ?_; rintro e w1 ⟨v1, rfl, hr, hb⟩; have HR1 := Amk hr; have HB1 := Amk hb; clear hr hb; obtain ⟨A1, n1, c1, rfl, HN1⟩ := R_parts HR1.out; have HF1 := Amk (HF.out.drew.below HB1.out); have cf1 := HF1.out.c2; have cf2 := (HF1.out.alloc (.cells #[.int .i64 2, .string ⟨#[]⟩, .slice A1 n1 c1, .int .i64 ref, .string text] 57)).c2)
  (first | refine hK.out _ _ trivial (fun hHeld => ?_) | refine hK _ _ trivial (fun hHeld => ?_)); try simp only [Lga, Lgz, Lgs, Act.put, Lsa, Lsz, Lss]
  refine tkH 9 ?_ hHeld ?_ ?_; rotate_left; focus (intro w_ hSw; (try dsimp only at hSw); go_simp; (try simp only [hSw]); (try rfl)); rotate_left; try simp only [Lga, Lgz, Lgs, Act.put, Lsa, Lsz, Lss]
  refine wpAnyH_ready (rs := [4, 10]) (by kernel_rfl) (by simp) ?_
  refine AllReadyH.cons rfl (fun K hK => ?_) (AllReadyH.cons rfl (fun K hK => ?_) AllReadyH.nil)
  ·
   go_simp
   (first | refine hK.out _ _ trivial (fun hHeld => ?_) | refine hK _ _ trivial (fun hHeld => ?_)); try simp only [Lga, Lgz, Lgs, Act.put, Lsa, Lsz, Lss]
   refine wpAnyH_ready (rs := [10]) (by kernel_rfl) (by simp) ?_
   refine AllReadyH.cons rfl (fun K hK => ?_) AllReadyH.nil
   ·
    go_simp
    (first | refine hK.out _ _ trivial (fun hHeld => ?_) | refine hK _ _ trivial (fun hHeld => ?_)); try simp only [Lga, Lgz, Lgs, Act.put, Lsa, Lsz, Lss]
    refine wpAnyH_ready (rs := [11]) (by kernel_rfl) (by simp) ?_
    refine AllReadyH.cons rfl (fun K hK => ?_) AllReadyH.nil
    ·
     refine Kd.R_append_step kAct (w0 := w0) w0.heap.size rfl (.tmp 12) (.tmp 18) 46 57 _ 72 rfl Tryz.underlying46 info57 rfl (by decide) (by decide) (.slice AA nA cA) acts (doAct ref text xs) [.int .i64 2, .string ⟨#[]⟩, .slice A1 n1 c1, .int .i64 ref, .string text] (fun _ => True) (fun k => True ∧ some k ≠ (Value.slice AA nA cA).ownBlock) rfl rfl (kAct_mkM w1 _ _ (doAct ref text xs) (Kd.R_apart' (Kd.R_lower HR1.out HF.out.drew.sz) (Kd.R_typed HF1.out.row) (by decide))) (fun _ hk => hk) (fun _ _ => trivial) HF1.out.row HF1.out.bel HF1.out.sz (by have := HL.out; omega) ?_; intro v2 w2 hR hB hG hat; have HR2 := Amk hR; have HB2 := Amk hB; have HG2 := Amk hG; have HAT2 := Amk hat; clear hR hB hG hat; obtain ⟨A2, n2, c2, rfl, HN2⟩ := R_parts HR2.out; have HM2 := Amk (HF1.out.grown HG2.out HB2.out); have zf := blk_frozen HM2.out.1 2; have cz := (bqc HM2.out.1 2).trans (show _ = some (Value.slice AA nA cA) from rfl)
     (first | refine hK.out _ _ trivial (fun hHeld => ?_) | refine hK _ _ trivial (fun hHeld => ?_)); try simp only [Lga, Lgz, Lgs, Act.put, Lsa, Lsz, Lss]
     refine tkH 12 ?_ hHeld ?_ ?_; rotate_left; focus (intro w_ hSw; (try dsimp only at hSw); go_simp; (try simp only [hSw]); (try rfl)); rotate_left; try simp only [Lga, Lgz, Lgs, Act.put, Lsa, Lsz, Lss]
     refine tkH 13 ?_ hHeld ?_ ?_; rotate_left; focus (intro w_ hSw; (try dsimp only at hSw); go_simp; (try simp only [hSw]); (try rfl)); rotate_left; try simp only [Lga, Lgz, Lgs, Act.put, Lsa, Lsz, Lss]
     refine wpAnyH_ready (rs := [14]) (by kernel_rfl) (by simp) ?_
     refine AllReadyH.cons rfl (fun K hK => ?_) AllReadyH.nil
     ·
      go_simp
      (first | refine hK.out _ _ trivial (fun hHeld => ?_) | refine hK _ _ trivial (fun hHeld => ?_)); try simp only [Lga, Lgz, Lgs, Act.put, Lsa, Lsz, Lss]
      refine wpAnyH_done (by kernel_rfl) ?_ _
      clear hK K
      go_end0
      exact ⟨rfl, _, _, _, HF1.out.push HG2.out HB2.out HR2.out, Went.after (bth (bdr (Below.refl _ _)) (Nat.le_refl _) HB1.out) (HF1.out.pushed HG2.out HAT2.out)⟩
  ·
   go_simp
   (first | refine hK.out _ _ trivial (fun hHeld => ?_) | refine hK _ _ trivial (fun hHeld => ?_)); try simp only [Lga, Lgz, Lgs, Act.put, Lsa, Lsz, Lss]
   refine wpAnyH_ready (rs := [4]) (by kernel_rfl) (by simp) ?_
   refine AllReadyH.cons rfl (fun K hK => ?_) AllReadyH.nil
   ·
    go_simp
    (first | refine hK.out _ _ trivial (fun hHeld => ?_) | refine hK _ _ trivial (fun hHeld => ?_)); try simp only [Lga, Lgz, Lgs, Act.put, Lsa, Lsz, Lss]
    refine wpAnyH_ready (rs := [11]) (by kernel_rfl) (by simp) ?_
    refine AllReadyH.cons rfl (fun K hK => ?_) AllReadyH.nil
    ·
     refine Kd.R_append_step kAct (w0 := w0) w0.heap.size rfl (.tmp 12) (.tmp 18) 46 57 _ 72 rfl Tryz.underlying46 info57 rfl (by decide) (by decide) (.slice AA nA cA) acts (doAct ref text xs) [.int .i64 2, .string ⟨#[]⟩, .slice A1 n1 c1, .int .i64 ref, .string text] (fun _ => True) (fun k => True ∧ some k ≠ (Value.slice AA nA cA).ownBlock) rfl rfl (kAct_mkM w1 _ _ (doAct ref text xs) (Kd.R_apart' (Kd.R_lower HR1.out HF.out.drew.sz) (Kd.R_typed HF1.out.row) (by decide))) (fun _ hk => hk) (fun _ _ => trivial) HF1.out.row HF1.out.bel HF1.out.sz (by have := HL.out; omega) ?_; intro v2 w2 hR hB hG hat; have HR2 := Amk hR; have HB2 := Amk hB; have HG2 := Amk hG; have HAT2 := Amk hat; clear hR hB hG hat; obtain ⟨A2, n2, c2, rfl, HN2⟩ := R_parts HR2.out; have HM2 := Amk (HF1.out.grown HG2.out HB2.out); have zf := blk_frozen HM2.out.1 2; have cz := (bqc HM2.out.1 2).trans (show _ = some (Value.slice AA nA cA) from rfl)
     (first | refine hK.out _ _ trivial (fun hHeld => ?_) | refine hK _ _ trivial (fun hHeld => ?_)); try simp only [Lga, Lgz, Lgs, Act.put, Lsa, Lsz, Lss]
     refine tkH 12 ?_ hHeld ?_ ?_; rotate_left; focus (intro w_ hSw; (try dsimp only at hSw); go_simp; (try simp only [hSw]); (try rfl)); rotate_left; try simp only [Lga, Lgz, Lgs, Act.put, Lsa, Lsz, Lss]
     refine tkH 13 ?_ hHeld ?_ ?_; rotate_left; focus (intro w_ hSw; (try dsimp only at hSw); go_simp; (try simp only [hSw]); (try rfl)); rotate_left; try simp only [Lga, Lgz, Lgs, Act.put, Lsa, Lsz, Lss]
     refine wpAnyH_ready (rs := [14]) (by kernel_rfl) (by simp) ?_
     refine AllReadyH.cons rfl (fun K hK => ?_) AllReadyH.nil
     ·
      go_simp
      (first | refine hK.out _ _ trivial (fun hHeld => ?_) | refine hK _ _ trivial (fun hHeld => ?_)); try simp only [Lga, Lgz, Lgs, Act.put, Lsa, Lsz, Lss]
      refine wpAnyH_done (by kernel_rfl) ?_ _
      clear hK K
      go_end0
      exact ⟨rfl, _, _, _, HF1.out.push HG2.out HB2.out HR2.out, Went.after (bth (bdr (Below.refl _ _)) (Nat.le_refl _) HB1.out) (HF1.out.pushed HG2.out HAT2.out)⟩
theorem say_calls (w0 w : World) (f o : Nat) (s : Mq) (conn : Int) (acts : List BAct) (vW vC vA : Value) (h : Fr w0 w f o s conn acts vW vC vA) (hl : acts.length ≤ 1048576) (p : Pkt) (vN vD : Value) (bytes : List UInt8) (err : Int) (hE : ∀ W, Below w.heap.size w W → Calls Tryz.prog 76 #[.agg (p.pk vN vD).cells] W (EPost W bytes err)) :
  Calls Tryz.prog 75 #[.pointer (some ⟨f, 0, none⟩), .agg (p.pk vN vD).cells] w (FPost w0 w f o conn vA vC false s (acts ++ [sayAct bytes])) := by
 have HF := Amk h
 have HL := Amk hl
 have HE := Amk hE
 clear h hl hE
 obtain ⟨AA, nA, cA, rfl, HNA⟩ := R_parts HF.out.row
 obtain ⟨kind, flags, id, code, name, text, keep, will, topic, clean, names, codes⟩ := p
 simp only [Pkt.pk, Pk.cells] at *
 have HBX := Amk (heap_alloc_new w (.cells (#[.int .i64 kind, .int .i64 flags, .int .i64 id, .int .i64 code, .string ⟨name.toArray⟩, .string ⟨text.toArray⟩, .int .i64 keep, .bool will, .string ⟨topic.toArray⟩, .bool clean, vN, vD]) 86))
 go_enter Tryz.func75, Tryz.ntmps75
 go_upto_region 2 with (first | ((with_reducible refine gate_dst (N := 7) rfl ?_); refine wpList_load_row rfl 86 (.tmp 3) rfl w.heap.size rfl 86 (#[.int .i64 kind, .int .i64 flags, .int .i64 id, .int .i64 code, .string ⟨name.toArray⟩, .string ⟨text.toArray⟩, .int .i64 keep, .bool will, .string ⟨topic.toArray⟩, .bool clean, vN, vD]) (0, 0) _ HBX.out Tryz.underlying86 rfl (by kernel_rfl) ?_) | (go_at_call 76; refine (HE.out _ (bal (Below.refl _ _) _)).mono ?_; rintro e w1 ⟨v1, rfl, ho, hb⟩; have HO1 := Amk ho; have HB1 := Amk hb; clear ho hb; obtain ⟨A1, n1, c1, rfl, HN1⟩ := HO1.out.slice'))
 have HF1 := Amk ((HF.out.alloc (.cells (#[.int .i64 kind, .int .i64 flags, .int .i64 id, .int .i64 code, .string ⟨name.toArray⟩, .string ⟨text.toArray⟩, .int .i64 keep, .bool will, .string ⟨topic.toArray⟩, .bool clean, vN, vD]) 86)).below HB1.out).drew
 have cf := HF1.out.c2
 have hcv := own_string (P := Tryz.prog) (src := 67) (dst := 9) (e := 5) Tryz.underlying67 Tryz.underlying5 Tryz.underlying9 (Byt.drew HO1.out)
 rw [strOf_nat8] at hcv
 have cf2 := (((HF.out.alloc (.cells (#[.int .i64 kind, .int .i64 flags, .int .i64 id, .int .i64 code, .string ⟨name.toArray⟩, .string ⟨text.toArray⟩, .int .i64 keep, .bool will, .string ⟨topic.toArray⟩, .bool clean, vN, vD]) 86)).below HB1.out).alloc (.cells #[.int .i64 1, .string ⟨bytes.toArray⟩, .slice none 0 0, .int .i64 0, .string ⟨#[]⟩] 57)).c2
 refine wp_region_held_drew (S := fun _ => True) (by kernel_rfl) trivial (fun hHeld => ?_)
 refine tkH 0 ?_ hHeld ?_ ?_; rotate_left; focus (intro w_ hSw; (try dsimp only at hSw); go_simp; (try simp only [hSw]); (try rfl)); rotate_left; try simp only [Lga, Lgz, Lgs, Act.put, Lsa, Lsz, Lss]
 refine tkH 1 ?_ hHeld ?_ ?_; rotate_left; focus (intro w_ hSw; (try dsimp only at hSw); go_simp; (try simp only [hSw]); (try rfl)); rotate_left; try simp only [Lga, Lgz, Lgs, Act.put, Lsa, Lsz, Lss]
 refine tkH 2 ?_ hHeld ?_ ?_; rotate_left; focus (intro w_ hSw; (try dsimp only at hSw); go_simp; (try simp only [hSw]); (try rfl)); rotate_left; try simp only [Lga, Lgz, Lgs, Act.put, Lsa, Lsz, Lss]
 refine tkH 3 ?_ hHeld ?_ ?_; rotate_left; focus (intro w_ hSw; (try dsimp only at hSw); go_simp; (try simp only [hSw]); (try rfl)); rotate_left; try simp only [Lga, Lgz, Lgs, Act.put, Lsa, Lsz, Lss]
 refine tkH 5 ?_ hHeld ?_ ?_; rotate_left; focus (intro w_ hSw; (try dsimp only at hSw); go_simp; (try simp only [hSw]); (try rfl)); rotate_left; try simp only [Lga, Lgz, Lgs, Act.put, Lsa, Lsz, Lss]
 refine wpAnyH_ready (rs := [4, 6]) (by kernel_rfl) (by simp) ?_
 refine AllReadyH.cons rfl (fun K hK => ?_) (AllReadyH.cons rfl (fun K hK => ?_) AllReadyH.nil)
 ·
  go_simp
  (first | refine hK.out _ _ trivial (fun hHeld => ?_) | refine hK _ _ trivial (fun hHeld => ?_)); try simp only [Lga, Lgz, Lgs, Act.put, Lsa, Lsz, Lss]
  refine wpAnyH_ready (rs := [6]) (by kernel_rfl) (by simp) ?_
  refine AllReadyH.cons rfl (fun K hK => ?_) AllReadyH.nil
  ·
   go_simp
   (first | refine hK.out _ _ trivial (fun hHeld => ?_) | refine hK _ _ trivial (fun hHeld => ?_)); try simp only [Lga, Lgz, Lgs, Act.put, Lsa, Lsz, Lss]
   refine tkH 7 ?_ hHeld ?_ ?_; rotate_left; focus (intro w_ hSw; (try dsimp only at hSw); go_simp; (try simp only [hSw]); (try rfl)); rotate_left; try simp only [Lga, Lgz, Lgs, Act.put, Lsa, Lsz, Lss]
   refine wpAnyH_ready (rs := [8]) (by kernel_rfl) (by simp) ?_
   refine AllReadyH.cons rfl (fun K hK => ?_) AllReadyH.nil
   ·
    go_simp
    (first | refine hK.out _ _ trivial (fun hHeld => ?_) | refine hK _ _ trivial (fun hHeld => ?_)); try simp only [Lga, Lgz, Lgs, Act.put, Lsa, Lsz, Lss]
    refine wpAnyH_ready (rs := [9]) (by kernel_rfl) (by simp) ?_
    refine AllReadyH.cons rfl (fun K hK => ?_) AllReadyH.nil
    ·
     refine Kd.R_append_step kAct (w0 := w0) (W := w1.drew) w0.heap.size rfl (.tmp 15) (.tmp 19) 46 57 _ 72 rfl Tryz.underlying46 info57 rfl (by decide) (by decide) (.slice AA nA cA) acts (sayAct bytes) [.int .i64 1, .string ⟨bytes.toArray⟩, .slice none 0 0, .int .i64 0, .string ⟨#[]⟩] (fun _ => True) (fun k => True ∧ some k ≠ (Value.slice AA nA cA).ownBlock) rfl rfl (kAct_mkM w1.drew _ _ (sayAct bytes) (Kd.R_nil _ _ _ _ _)) (fun _ hk => hk) (fun _ _ => trivial) HF1.out.row HF1.out.bel HF1.out.sz (by have := HL.out; omega) ?_; intro v2 w2 hR hB hG hat; have HR2 := Amk hR; have HB2 := Amk hB; have HG2 := Amk hG; have HAT2 := Amk hat; clear hR hB hG hat; obtain ⟨A2, n2, c2, rfl, HN2⟩ := R_parts HR2.out; have HM2 := Amk (HF1.out.grown HG2.out HB2.out); have zf := blk_frozen HM2.out.1 2; have cz := (bqc HM2.out.1 2).trans (show _ = some (Value.slice AA nA cA) from rfl)
     (first | refine hK.out _ _ trivial (fun hHeld => ?_) | refine hK _ _ trivial (fun hHeld => ?_)); try simp only [Lga, Lgz, Lgs, Act.put, Lsa, Lsz, Lss]
     refine tkH 10 ?_ hHeld ?_ ?_; rotate_left; focus (intro w_ hSw; (try dsimp only at hSw); go_simp; (try simp only [hSw]); (try rfl)); rotate_left; try simp only [Lga, Lgz, Lgs, Act.put, Lsa, Lsz, Lss]
     refine tkH 11 ?_ hHeld ?_ ?_; rotate_left; focus (intro w_ hSw; (try dsimp only at hSw); go_simp; (try simp only [hSw]); (try rfl)); rotate_left; try simp only [Lga, Lgz, Lgs, Act.put, Lsa, Lsz, Lss]
     refine wpAnyH_ready (rs := [12]) (by kernel_rfl) (by simp) ?_
     refine AllReadyH.cons rfl (fun K hK => ?_) AllReadyH.nil
     ·
      go_simp
      (first | refine hK.out _ _ trivial (fun hHeld => ?_) | refine hK _ _ trivial (fun hHeld => ?_)); try simp only [Lga, Lgz, Lgs, Act.put, Lsa, Lsz, Lss]
      refine wpAnyH_done (by kernel_rfl) ?_ _
      clear hK K
      go_end0
      exact ⟨rfl, _, _, _, HF1.out.push HG2.out HB2.out HR2.out, Went.after (bth (bth (bal (Below.refl _ _) _) (by simp) HB1.out) (Nat.le_trans (by simp) HB1.out.size) (bdr (Below.refl _ _))) (HF1.out.pushed HG2.out HAT2.out)⟩
 ·
  go_simp
  (first | refine hK.out _ _ trivial (fun hHeld => ?_) | refine hK _ _ trivial (fun hHeld => ?_)); try simp only [Lga, Lgz, Lgs, Act.put, Lsa, Lsz, Lss]
  refine tkH 7 ?_ hHeld ?_ ?_; rotate_left; focus (intro w_ hSw; (try dsimp only at hSw); go_simp; (try simp only [hSw]); (try rfl)); rotate_left; try simp only [Lga, Lgz, Lgs, Act.put, Lsa, Lsz, Lss]
  refine wpAnyH_ready (rs := [4, 8]) (by kernel_rfl) (by simp) ?_
  refine AllReadyH.cons rfl (fun K hK => ?_) (AllReadyH.cons rfl (fun K hK => ?_) AllReadyH.nil)
  ·
   go_simp
   (first | refine hK.out _ _ trivial (fun hHeld => ?_) | refine hK _ _ trivial (fun hHeld => ?_)); try simp only [Lga, Lgz, Lgs, Act.put, Lsa, Lsz, Lss]
   refine wpAnyH_ready (rs := [8]) (by kernel_rfl) (by simp) ?_
   refine AllReadyH.cons rfl (fun K hK => ?_) AllReadyH.nil
   ·
    go_simp
    (first | refine hK.out _ _ trivial (fun hHeld => ?_) | refine hK _ _ trivial (fun hHeld => ?_)); try simp only [Lga, Lgz, Lgs, Act.put, Lsa, Lsz, Lss]
    refine wpAnyH_ready (rs := [9]) (by kernel_rfl) (by simp) ?_
    refine AllReadyH.cons rfl (fun K hK => ?_) AllReadyH.nil
    ·
     refine Kd.R_append_step kAct (w0 := w0) (W := w1.drew) w0.heap.size rfl (.tmp 15) (.tmp 19) 46 57 _ 72 rfl Tryz.underlying46 info57 rfl (by decide) (by decide) (.slice AA nA cA) acts (sayAct bytes) [.int .i64 1, .string ⟨bytes.toArray⟩, .slice none 0 0, .int .i64 0, .string ⟨#[]⟩] (fun _ => True) (fun k => True ∧ some k ≠ (Value.slice AA nA cA).ownBlock) rfl rfl (kAct_mkM w1.drew _ _ (sayAct bytes) (Kd.R_nil _ _ _ _ _)) (fun _ hk => hk) (fun _ _ => trivial) HF1.out.row HF1.out.bel HF1.out.sz (by have := HL.out; omega) ?_; intro v2 w2 hR hB hG hat; have HR2 := Amk hR; have HB2 := Amk hB; have HG2 := Amk hG; have HAT2 := Amk hat; clear hR hB hG hat; obtain ⟨A2, n2, c2, rfl, HN2⟩ := R_parts HR2.out; have HM2 := Amk (HF1.out.grown HG2.out HB2.out); have zf := blk_frozen HM2.out.1 2; have cz := (bqc HM2.out.1 2).trans (show _ = some (Value.slice AA nA cA) from rfl)
     (first | refine hK.out _ _ trivial (fun hHeld => ?_) | refine hK _ _ trivial (fun hHeld => ?_)); try simp only [Lga, Lgz, Lgs, Act.put, Lsa, Lsz, Lss]
     refine tkH 10 ?_ hHeld ?_ ?_; rotate_left; focus (intro w_ hSw; (try dsimp only at hSw); go_simp; (try simp only [hSw]); (try rfl)); rotate_left; try simp only [Lga, Lgz, Lgs, Act.put, Lsa, Lsz, Lss]
     refine tkH 11 ?_ hHeld ?_ ?_; rotate_left; focus (intro w_ hSw; (try dsimp only at hSw); go_simp; (try simp only [hSw]); (try rfl)); rotate_left; try simp only [Lga, Lgz, Lgs, Act.put, Lsa, Lsz, Lss]
     refine wpAnyH_ready (rs := [12]) (by kernel_rfl) (by simp) ?_
     refine AllReadyH.cons rfl (fun K hK => ?_) AllReadyH.nil
     ·
      go_simp
      (first | refine hK.out _ _ trivial (fun hHeld => ?_) | refine hK _ _ trivial (fun hHeld => ?_)); try simp only [Lga, Lgz, Lgs, Act.put, Lsa, Lsz, Lss]
      refine wpAnyH_done (by kernel_rfl) ?_ _
      clear hK K
      go_end0
      exact ⟨rfl, _, _, _, HF1.out.push HG2.out HB2.out HR2.out, Went.after (bth (bth (bal (Below.refl _ _) _) (by simp) HB1.out) (Nat.le_trans (by simp) HB1.out.size) (bdr (Below.refl _ _))) (HF1.out.pushed HG2.out HAT2.out)⟩
  ·
   go_simp
   (first | refine hK.out _ _ trivial (fun hHeld => ?_) | refine hK _ _ trivial (fun hHeld => ?_)); try simp only [Lga, Lgz, Lgs, Act.put, Lsa, Lsz, Lss]
   refine wpAnyH_ready (rs := [4]) (by kernel_rfl) (by simp) ?_
   refine AllReadyH.cons rfl (fun K hK => ?_) AllReadyH.nil
   ·
    go_simp
    (first | refine hK.out _ _ trivial (fun hHeld => ?_) | refine hK _ _ trivial (fun hHeld => ?_)); try simp only [Lga, Lgz, Lgs, Act.put, Lsa, Lsz, Lss]
    refine wpAnyH_ready (rs := [9]) (by kernel_rfl) (by simp) ?_
    refine AllReadyH.cons rfl (fun K hK => ?_) AllReadyH.nil
    ·
     refine Kd.R_append_step kAct (w0 := w0) (W := w1.drew) w0.heap.size rfl (.tmp 15) (.tmp 19) 46 57 _ 72 rfl Tryz.underlying46 info57 rfl (by decide) (by decide) (.slice AA nA cA) acts (sayAct bytes) [.int .i64 1, .string ⟨bytes.toArray⟩, .slice none 0 0, .int .i64 0, .string ⟨#[]⟩] (fun _ => True) (fun k => True ∧ some k ≠ (Value.slice AA nA cA).ownBlock) rfl rfl (kAct_mkM w1.drew _ _ (sayAct bytes) (Kd.R_nil _ _ _ _ _)) (fun _ hk => hk) (fun _ _ => trivial) HF1.out.row HF1.out.bel HF1.out.sz (by have := HL.out; omega) ?_; intro v2 w2 hR hB hG hat; have HR2 := Amk hR; have HB2 := Amk hB; have HG2 := Amk hG; have HAT2 := Amk hat; clear hR hB hG hat; obtain ⟨A2, n2, c2, rfl, HN2⟩ := R_parts HR2.out; have HM2 := Amk (HF1.out.grown HG2.out HB2.out); have zf := blk_frozen HM2.out.1 2; have cz := (bqc HM2.out.1 2).trans (show _ = some (Value.slice AA nA cA) from rfl)
     (first | refine hK.out _ _ trivial (fun hHeld => ?_) | refine hK _ _ trivial (fun hHeld => ?_)); try simp only [Lga, Lgz, Lgs, Act.put, Lsa, Lsz, Lss]
     refine tkH 10 ?_ hHeld ?_ ?_; rotate_left; focus (intro w_ hSw; (try dsimp only at hSw); go_simp; (try simp only [hSw]); (try rfl)); rotate_left; try simp only [Lga, Lgz, Lgs, Act.put, Lsa, Lsz, Lss]
     refine tkH 11 ?_ hHeld ?_ ?_; rotate_left; focus (intro w_ hSw; (try dsimp only at hSw); go_simp; (try simp only [hSw]); (try rfl)); rotate_left; try simp only [Lga, Lgz, Lgs, Act.put, Lsa, Lsz, Lss]
     refine wpAnyH_ready (rs := [12]) (by kernel_rfl) (by simp) ?_
     refine AllReadyH.cons rfl (fun K hK => ?_) AllReadyH.nil
     ·
      go_simp
      (first | refine hK.out _ _ trivial (fun hHeld => ?_) | refine hK _ _ trivial (fun hHeld => ?_)); try simp only [Lga, Lgz, Lgs, Act.put, Lsa, Lsz, Lss]
      refine wpAnyH_done (by kernel_rfl) ?_ _
      clear hK K
      go_end0
      exact ⟨rfl, _, _, _, HF1.out.push HG2.out HB2.out HR2.out, Went.after (bth (bth (bal (Below.refl _ _) _) (by simp) HB1.out) (Nat.le_trans (by simp) HB1.out.size) (bdr (Below.refl _ _))) (HF1.out.pushed HG2.out HAT2.out)⟩
theorem end_calls (w0 w : World) (f o : Nat) (s : Mq) (conn : Int) (acts : List BAct) (vW vC vA : Value) (h : Fr w0 w f o s conn acts vW vC vA) (hl : acts.length ≤ 1048576) :
  Calls Tryz.prog 123 #[.pointer (some ⟨f, 0, none⟩)] w (FPost w0 w f o conn vA vC false (ended s) (acts ++ [endAct])) := by
 have HF := Amk h
 have HL := Amk hl
 clear h hl
 obtain ⟨AA, nA, cA, rfl, HNA⟩ := R_parts HF.out.row
 have c0 := HF.out.c0
 have c2 := (HF.out.cell 2).trans (show _ = some (Value.bool s.down) from rfl)
 have c5 := (HF.out.cell 0).trans (show _ = some (Value.string s.rest) from rfl)
 have z2 := HF.out.zo 2
 have z0 := HF.out.zo 0
 go_enter Tryz.func123, Tryz.ntmps123
 go_upto_region 0 with (fail)
 go_region_held3 (fun W => W.cell? ⟨f, 0, none⟩ = some (.pointer (some ⟨o, 0, none⟩))) (first | exact HF.out.drew.c0 | exact (HF.out.drew.setO (s' := { s with down := true }) 2 (.bool true) rfl HF.out.drew.own.will HF.out.drew.own.codes).c0 | exact ((HF.out.drew.setO (s' := { s with down := true }) 2 (.bool true) rfl HF.out.drew.own.will HF.out.drew.own.codes).setO (s' := ended s) 0 (.string ⟨#[]⟩) rfl (Kd.R_set HF.out.drew.own.will HF.out.drew.own.blk (by decide) 2 _) (Kd.R_set HF.out.drew.own.codes HF.out.drew.own.blk (by decide) 2 _)).c0) (fail)
 have HF5 := Amk (((HF.out.setO (s' := { s with down := true }) 2 (.bool true) rfl HF.out.own.will HF.out.own.codes).setO (s' := ended s) 0 (.string ⟨#[]⟩) rfl (Kd.R_set HF.out.own.will HF.out.own.blk (by decide) 2 _) (Kd.R_set HF.out.own.codes HF.out.own.blk (by decide) 2 _)).drew)
 have HW5 := Amk (((HF.out.seto 2 (.bool true)).trans ((HF.out.setO (s' := { s with down := true }) 2 (.bool true) rfl HF.out.own.will HF.out.own.codes).seto 0 (.string ⟨#[]⟩))).below (bdr (Below.refl _ _)))
 clear HF c0 c2 c5 z2 z0
 generalize ((w.setCell ⟨o, 2, none⟩ (.bool true)).setCell ⟨o, 0, none⟩ (.string ⟨#[]⟩)).drew = w5 at *
 have cf := HF5.out.c2
 go_wp2_with ((with_reducible refine gate_builtin (b := .append) (xs := #[.tmp 18, .tmp 20]) rfl ?_); at_builtin; refine Kd.R_append kAct (w0 := w0) w0.heap.size rfl (.tmp 18) (.tmp 20) 46 57 _ 72 rfl Tryz.underlying46 info57 rfl (by decide) (by decide) (.slice AA nA cA) acts endAct [.int .i64 3, .string ⟨#[]⟩, .slice none 0 0, .int .i64 0, .string ⟨#[]⟩] (fun _ => True) (fun k => True ∧ some k ≠ (Value.slice AA nA cA).ownBlock) rfl rfl (kAct_mkM w5 _ _ endAct (Kd.R_nil _ _ _ _ _)) (fun _ hk => hk) (fun _ _ => trivial) HF5.out.row HF5.out.bel HF5.out.sz (by have := HL.out; omega) ?_; intro v2 w2 hR hB hG hat; have HR2 := Amk hR; have HB2 := Amk hB; have HG2 := Amk hG; have HAT2 := Amk hat; clear hR hB hG hat; obtain ⟨A2, n2, c2, rfl, HN2⟩ := R_parts HR2.out; have HM2 := Amk (HF5.out.grown HG2.out HB2.out); have zf := blk_frozen HM2.out.1 2; have cz := (bqc HM2.out.1 2).trans (show _ = some (Value.slice AA nA cA) from rfl))
 go_end0
 exact ⟨rfl, _, _, _, HF5.out.push HG2.out HB2.out HR2.out, HW5.out.trans (HF5.out.pushed HG2.out HAT2.out)⟩
theorem catch122 (b f o : Nat) (w0 W : World) (older : List PanicEntry) (s : Mq) (conn : Int) (acts : List BAct) (vW vC vA : Value) (h : Fr w0 W f o s conn acts vW vC vA) (hl : acts.length ≤ 1048576) (hb : W.cell? ⟨b, 0, none⟩ = some (.pointer (some ⟨f, 0, none⟩))) :
  CallsD Tryz.prog 122 #[.pointer (some ⟨b, 0, none⟩)] (.panicking ({ v := .iface 164 (.agg #[]), recovered := false } :: older)) W fun e' u' w' =>
   e' = .returned (.tuple #[]) ∧ u' = .panicking ({ v := .iface 164 (.agg #[]), recovered := true } :: older) ∧ ∃ vW' vC' vA', Fr w0 w' f o (ended s) conn (acts ++ [endAct]) vW' vC' vA' ∧ Went W w' f o vA vC vA' vC' := by
 have HF := Amk h
 have HL := Amk hl
 clear h hl
 refine callsD_of_wpS Tryz.func122 rfl fun c₀ cs hu => ?_
 apply wpS_seq
 apply wpS_region
 simp [wpOpsS, go_sem, recoverD, hu, Tryz.ntmps122, Exit.thenS]
 refine wpS_of_wp ?_
 simp only [Array.replicate_succ, Array.replicate_zero, List.push_toArray, List.append_toArray, List.nil_append, List.cons_append, Lsa, Lsz, Lss]
 have HU := Amk hu
 clear hu
 have hta : ∀ w : World, (Instr.typeAssert (.iface 164 (.agg #[])) 20 164 true).run Tryz.prog w = .ok (.tuple #[.agg #[], .bool true]) w := fun _ => by kernel_rfl
 have hb2 : (W.alloc (.cells #[] 164)).cell? ⟨b, 0, none⟩ = some (.pointer (some ⟨f, 0, none⟩)) := (World.cell?_alloc_lt _ _ _ (World.block_lt_of_cell? W _ hb)).trans hb
 have HE := Amk (end_calls w0 _ f o s conn acts vW vC vA (HF.out.alloc (.cells #[] 164)) HL.out)
 go_wp2_with (go_at_call 123; refine HE.out.mono ?_; rintro e1 w1 ⟨rfl, vW', vC', vA', hf, hk⟩; have HF1 := Amk hf; have HK1 := Amk hk; clear hf hk)
 simp [bodyPostS, results, Tryz.results122]
 exact ⟨_, _, _, HF1.out, Went.after (bal (Below.refl _ _) _) HK1.out⟩
theorem idle122 (b : Nat) (W : World) :
  CallsD Tryz.prog 122 #[.pointer (some ⟨b, 0, none⟩)] .returning W fun e' u' w' => e' = .returned (.tuple #[]) ∧ u' = .returning ∧ w' = W := by
 refine callsD_of_wpS Tryz.func122 rfl fun c₀ cs hu => ?_
 apply wpS_seq
 apply wpS_region
 simp [wpOpsS, go_sem, recoverD, hu, Tryz.ntmps122, Exit.thenS]
 refine wpS_of_wp ?_
 simp only [Array.replicate_succ, Array.replicate_zero, List.push_toArray, List.append_toArray, List.nil_append, List.cons_append, Lsa, Lsz, Lss]
 have hnl : ∀ w : World, (binOp .eql 20 .nilIface .nilIface).run Tryz.prog w = .ok (.bool true) w := fun _ => by kernel_rfl
 have HU := Amk hu
 clear hu
 go_wp2_with fail
 cases c₀
 have := HU.out
 simp_all [bodyPostS, results, Tryz.results122]
theorem guard_calls (K f o : Nat) (caps : Array Value) (w0 w : World) (s s' : Mq) (conn : Int) (acts acts' : List BAct) (vW vC vA : Value) (stop : Bool) (hK : ∀ w : World, (callFunc K caps).run Tryz.prog w = .ok (.enter K caps) w) (h : Fr w0 w f o s conn acts vW vC vA) (hl : acts'.length ≤ 1048576)
  (hC : ∀ W, Below w.heap.size w W → Calls Tryz.prog K caps W (FPost w0 W f o conn vA vC stop s' acts')) :
  Calls Tryz.prog 68 #[.pointer (some ⟨f, 0, none⟩), .func (.func K) #[] caps] w (FPost w0 w f o conn vA vC false (if stop = true then ended s' else s') (if stop = true then acts' ++ [endAct] else acts')) := by
 have hmf : ∀ (fn : Fn) (first cap : Array Value) (w : World), (Instr.makeFunc fn first cap).run Tryz.prog w = .ok (.func fn first cap) w := fun _ _ _ _ => rfl
 have HF := Amk h
 have HL := Amk hl
 have HC := Amk (hC _ (bal (Below.refl _ _) (.cells #[.pointer (some ⟨f, 0, none⟩)] 103)))
 clear h hl hC
 go_enter_defers Tryz.func68, Tryz.ntmps68
 cases stop
 ·
  go_wp2_with (refine HC.out.mono ?_; rintro e1 w1 ⟨rfl, vW', vC', vA', hf, hk⟩; have HF1 := Amk hf; have HK1 := Amk hk; clear hf hk)
  refine leaves_cons (f := 122) (args := #[.pointer (some ⟨w.heap.size, 0, none⟩)]) (by simp) (by simp [go_sem]) ?_
  refine (idle122 w.heap.size _).mono ?_
  rintro e' u' w'' ⟨rfl, rfl, rfl⟩
  exact ⟨_, results_none rfl _ _ _, rfl, _, _, _, HF1.out, Went.after (bal (Below.refl _ _) _) HK1.out⟩
 ·
  have hbox : Aside0 (∀ w1, Kept (w.alloc (.cells #[.pointer (some ⟨f, 0, none⟩)] 103)) w1 (FrK f o vA vC) → w1.cell? ⟨w.heap.size, 0, none⟩ = some (.pointer (some ⟨f, 0, none⟩))) := ⟨fun w1 hk => by
   refine (bqc (blk_kept (heap_alloc_new w _) hk ?_) 0).trans rfl
   have h1 := blt HF.out.fb
   have h2 := blt HF.out.own.blk
   rintro (e | e | e | e)
   ·
    omega
   ·
    omega
   ·
    exact absurd (Kd.R_lt HF.out.row _ e.symm) (Nat.lt_irrefl _)
   ·
    exact absurd (Kd.R_lt HF.out.own.codes _ e.symm) (Nat.lt_irrefl _)⟩
  go_wp2_with (refine HC.out.mono ?_; rintro e1 w1 ⟨rfl, vW', vC', vA', hf, hk⟩; have HF1 := Amk hf; have HK1 := Amk hk; clear hf hk)
  refine leaves_cons (f := 122) (args := #[.pointer (some ⟨w.heap.size, 0, none⟩)]) (by simp) (by simp [go_sem]) ?_
  refine (catch122 w.heap.size f o w0 _ [] s' conn acts' vW' vC' vA' HF1.out HL.out (hbox.out _ HK1.out.kept)).mono ?_
  rintro e' u' w'' ⟨rfl, rfl, vW2, vC2, vA2, hf2, hk2⟩
  exact ⟨_, results_none rfl _ _ _, rfl, _, _, _, hf2, Went.after (bal (Below.refl _ _) _) (HK1.out.trans hk2)⟩
def itoaB (n : Int) : ByteArray := ⟨(Lib.itoa n).toArray⟩
theorem itoa_calls (n : Int) (h0 : -9223372036854775808 ≤ n) (h1 : n ≤ 9223372036854775807) (w : World) (hG : WI w) : Calls Tryz.prog 54 #[.int .i64 n] w fun e w' => e = .returned (.string (itoaB n)) ∧ Below w.heap.size w w' := by
 refine (Tryz.strconv_Itoa n h0 h1 w hG.2.1).mono ?_
 rintro e w' ⟨rfl, k, os, rfl⟩
 exact ⟨rfl, rfl, rfl, rfl, by simp [«Sort».grow], fun i hi => by simp [«Sort».grow, World.drewN, Array.getElem?_append_left hi]⟩
theorem dotsB_len {l t : List UInt8} (h : M.dotsB l = some t) : t.length = l.length := by
 unfold M.dotsB at h
 split at h
 ·
  cases h
 ·
  split at h
  ·
   injection h with h; rw [← h, List.length_map]
  ·
   cases h
def messageF (name text : List UInt8) : Option (List UInt8) :=
 match M.dotsB name with
 | some t => if goodB t = true ∧ text.length ≤ 1024 then some t else none
 | none => none
def MPost (w : World) (o : Option (List UInt8)) (text : List UInt8) (q : Nat) (e : Ending) (w' : World) : Prop :=
 match o with
 | some t => e = .returned (.agg #[.string ⟨t.toArray⟩, .string ⟨text.toArray⟩, .slice none 0 0, .bool (decide (0 < q)), .int .i64 0]) ∧ Below w.heap.size w w'
 | none => e = .panicked (Stop 164) ∧ Below w.heap.size w w'
theorem message_calls (name text : List UInt8) (q : Nat) (hn : name.length ≤ 131072) (w : World) (hG : WI w) :
  Calls Tryz.prog 199 #[.string ⟨name.toArray⟩, .string ⟨text.toArray⟩, .int .i64 q] w (MPost w (messageF name text) text q) := by
 have HD := Amk (U.dots_calls name hn)
 have HG := Amk hG
 have hst := size_l text
 clear hG
 unfold messageF
 cases hd : M.dotsB name with
 | none =>
  rw [hd] at HD
  go_enter Tryz.func199, Tryz.ntmps199
  go_wp2_with (first | (go_at_call 44; refine (HD.out _ (HG.out.below (bal (Below.refl _ _) _))).mono ?_; rintro e1 w1 ⟨rfl, hb⟩; have HB1 := Amk hb; clear hb; simp only [U.out]) | (go_at_call 70; refine (unlessQ_no _).mono ?_; rintro e2 w2 ⟨rfl, rfl⟩))
  exact ⟨rfl, rfl, bth (bal (Below.refl _ _) _) (by simp) HB1.out⟩
 | some t =>
  have htl := dotsB_len hd
  rw [hd] at HD
  have HQ : Aside0 (∀ w, WI w → Calls Tryz.prog 60 #[.string ⟨t.toArray⟩] w fun e w' => e = .returned (.bool (goodB t)) ∧ Below w.heap.size w w') := ⟨fun w hG => topic_Good.calls ⟨t.toArray⟩ _ w hG (by unfold topic_Good.f; rw [if_pos (by simp [ByteArray.size]; omega)])⟩
  clear hd htl
  simp only []
  cases hg : goodB t with
  | false =>
   rw [hg] at HQ
   clear hg
   simp only [Bool.false_eq_true, false_and, if_false]
   go_enter Tryz.func199, Tryz.ntmps199
   go_wp2_with (first | (go_at_call 44; refine (HD.out _ (HG.out.below (bal (Below.refl _ _) _))).mono ?_; rintro e1 w1 ⟨rfl, hb⟩; have HB1 : Aside0 (Below w.heap.size w w1) := ⟨bth (bal (Below.refl _ _) _) (by simp) hb⟩; clear hb; simp only [U.out]) | (go_at_call 60; refine (HQ.out _ (HG.out.below HB1.out)).mono ?_; rintro e1 w2 ⟨rfl, hb⟩; have HB2 : Aside0 (Below w.heap.size w w2) := ⟨bth HB1.out HB1.out.size hb⟩; clear hb) | (go_at_call 70; refine (unlessQ_no _).mono ?_; rintro e2 w2 ⟨rfl, rfl⟩))
   exact ⟨rfl, rfl, HB2.out⟩
  | true =>
   rw [hg] at HQ
   clear hg
   by_cases hlen : text.length ≤ 1024
   ·
    have hd1 : decide ((text.length : Int) ≤ 1024) = true := decide_eq_true (by omega)
    have hd2 : decide (text.length ≤ 1024) = true := decide_eq_true hlen
    simp only [hlen, and_self, if_true]
    clear hlen
    have HBX := Amk (heap_alloc_new w (.cells #[.string ⟨#[]⟩, .string ⟨#[]⟩, .slice none 0 0, .bool false, .int .i64 0] 62))
    obtain ⟨qb, hqb⟩ : ∃ qb, decide (0 < q) = qb := ⟨_, rfl⟩
    have hqb2 : decide ((0 : Int) < (q : Int)) = qb := by rw [← hqb]; congr 1; simp
    go_enter Tryz.func199, Tryz.ntmps199
    go_wp2_with (first | (go_at_call 44; refine (HD.out _ (HG.out.below (bal (Below.refl _ _) _))).mono ?_; rintro e1 w1 ⟨rfl, hb⟩; have HB1 : Aside0 (Below w.heap.size w w1) := ⟨bth (bal (Below.refl _ _) _) (by simp) hb⟩; have HBX1 := Amk ((hb.block w.heap.size (by simp)).trans HBX.out); clear hb; simp only [U.out]) | (go_at_call 60; refine (HQ.out _ (HG.out.below HB1.out)).mono ?_; rintro e1 w2 ⟨rfl, hb⟩; have HB2 : Aside0 (Below w.heap.size w w2) := ⟨bth HB1.out HB1.out.size hb⟩; have HBX2 := Amk ((hb.block w.heap.size (blt HBX1.out)).trans HBX1.out); clear hb) | (go_at_call 70; refine (unlessQ_yes _).mono ?_; rintro e2 w2 ⟨rfl, rfl⟩) | ((with_reducible refine gate_store (t := 62) (p := 6) rfl ?_); refine wpList_store_blk 62 (.tmp 6) (.tmp 30) rfl rfl rfl (g := w.heap.size) (e := 62) (.agg #[.string ⟨t.toArray⟩, .string ⟨text.toArray⟩, .slice none 0 0, .bool qb, .int .i64 0]) [.string ⟨t.toArray⟩, .string ⟨text.toArray⟩, .slice none 0 0, .bool qb, .int .i64 0] rfl rfl rfl HBX2.out (by kernel_rfl) rfl (by simp [Value.oneCell']) ?_; intro W1 hw; have HW1 := Amk hw; clear hw))
    refine bodyPost_ret (results_cell_row rfl _ _ w.heap.size 62 (#[.string ⟨t.toArray⟩, .string ⟨text.toArray⟩, .slice none 0 0, .bool qb, .int .i64 0]) (0, 0) _ rfl HW1.out.blk Tryz.underlying62 rfl (by kernel_rfl)) rfl ?_
    exact ⟨by rw [hqb], HW1.out.below HB2.out HB2.out.size (Nat.le_refl _)⟩
   ·
    have hd1 : decide ((text.length : Int) ≤ 1024) = false := decide_eq_false (by omega)
    have hd2 : decide (text.length ≤ 1024) = false := decide_eq_false hlen
    simp only [hlen, and_false, if_false]
    clear hlen
    go_enter Tryz.func199, Tryz.ntmps199
    go_wp2_with (first | (go_at_call 44; refine (HD.out _ (HG.out.below (bal (Below.refl _ _) _))).mono ?_; rintro e1 w1 ⟨rfl, hb⟩; have HB1 : Aside0 (Below w.heap.size w w1) := ⟨bth (bal (Below.refl _ _) _) (by simp) hb⟩; clear hb; simp only [U.out]) | (go_at_call 60; refine (HQ.out _ (HG.out.below HB1.out)).mono ?_; rintro e1 w2 ⟨rfl, hb⟩; have HB2 : Aside0 (Below w.heap.size w w2) := ⟨bth HB1.out HB1.out.size hb⟩; clear hb) | (go_at_call 70; refine (unlessQ_no _).mono ?_; rintro e2 w2 ⟨rfl, rfl⟩))
    exact ⟨rfl, rfl, HB2.out⟩
theorem Fr.far {w0 W : World} {f o : Nat} {s : Mq} {conn : Int} {acts : List BAct} {vW vC vA : Value} (h : Fr w0 W f o s conn acts vW vC vA) {k : Nat} (hk : W.heap.size ≤ k) : ¬ FrK f o vA vC k := by
 have h1 := blt h.fb
 have h2 := blt h.own.blk
 rintro (e | e | e | e)
 ·
  omega
 ·
  omega
 ·
  exact absurd (Kd.R_lt h.row _ e.symm) (by omega)
 ·
  exact absurd (Kd.R_lt h.own.codes _ e.symm) (by omega)
theorem one_le (x : BOp) : [x].length ≤ 1048576 := by simp
theorem ops_one {W : World} {b t : Nat} {x : BOp} (h : W.heap[b]? = some (.cells (opCells x none 0).toArray t (0, 0))) : kOp.C W (some ⟨b, 0, none⟩) 1 [x] := by
 refine ⟨rfl, by decide, fun _ => ⟨_, rfl, fun j p hp => ⟨opCells x none 0, rfl, ?_, fun i u hu => ?_⟩⟩⟩
 ·
  rcases j with _ | j
  ·
   injection hp with hp; subst hp; exact ⟨none, 0, rfl⟩
  ·
   simp at hp
 ·
  rcases j with _ | j
  ·
   rw [add_plain, show 0 * kOp.sz + i = i from by omega, bqc h i]; simpa using hu
  ·
   simp at hp
theorem wp_store_blk {P : Program} {o : Oper} {a : Act} {W : World} {K : Act → World → Prop} {Q : Exit → Act → World → Prop} (t : TypeId) (p x : Operand) (ho : o.op = .store t p x) (hN : o.dst = none) {g e : Nat} {cur : Array Value} (u : Value) (seg : List Value)
  (hp : a.eval p = .pointer (some ⟨g, 0, none⟩)) (hx : a.eval x = u) (hu : u.cells.toList = seg) (hh : W.heap[g]? = some (.cells cur e (0, 0))) (ht : (P.info? t).map (·.size) = some seg.length) (hsz : cur.size = seg.length)
  (h1 : ∀ q ∈ seg, q.oneCell' = true)
  (h : ∀ W1, Wrote W W1 g seg.toArray e → K a W1) : o.wp P a W K Q := by
 have hrun := run_store_run (P := P) (w := W) (g := g) (o := 0) t u seg hh hu ht (by omega) h1
 unfold Oper.wp execOp
 simp only [ho, hp, hx, Sem.run_bind, Sem.run_pure, Result.andThen_ok, hrun]
 show K (a.put o.dst undef) _
 rw [hN]
 refine h _ ⟨?_, setCells_far' g seg 0 W, setCells_grown g seg 0 W⟩
 rw [← wrAt_all cur seg hsz]
 exact setCells_at seg 0 W cur hh
def pubOp (t text : List UInt8) (fl : Nat) : BOp := { zOp with kind := 5, keep := decide (fl % 2 = 1), topic := ⟨t.toArray⟩, body := ⟨text.toArray⟩, mdur := decide (0 < fl / 2 % 4) }
def publishF (s : Mq) (topic text : List UInt8) (fl : Nat) (id : Int) : Option BAct :=
 match messageF topic text with
 | none => none
 | some t => some (if fl / 2 % 4 = 0 then doAct 0 ⟨#[]⟩ [pubOp t text fl] else if fl / 2 % 4 = 1 then doAct 4 (itoaB id) [pubOp t text fl] else doAct 5 (itoaB id) [{ pubOp t text fl with text := s.client, n := id }])
theorem keep_bits (f : Nat) (h : f < 16) : bits .and .i64 (f : Int) 1 = ((f % 2 : Nat) : Int) := by
 have : ∀ x : Fin 16, bits .and .i64 (x.val : Int) 1 = ((x.val % 2 : Nat) : Int) := by decide +kernel
 exact this ⟨f, h⟩
def optActs (acts : List BAct) (o : Option BAct) : List BAct := match o with | some a => acts ++ [a] | none => acts
theorem publish_calls (w0 w : World) (f o : Nat) (s : Mq) (conn : Int) (acts : List BAct) (vW vC vA : Value) (h : Fr w0 w f o s conn acts vW vC vA) (hl : acts.length ≤ 1048576) (kind id code keep : Int) (fl : Nat) (name text topic : List UInt8) (will clean : Bool) (vN vD : Value) (hG : WI w) (hfl : fl < 16) (hid0 : 0 ≤ id) (hid1 : id ≤ 65535) (htl : topic.length ≤ 131072) :
  Calls Tryz.prog 125 #[.pointer (some ⟨f, 0, none⟩), .agg #[.int .i64 kind, .int .i64 (fl : Int), .int .i64 id, .int .i64 code, .string ⟨name.toArray⟩, .string ⟨text.toArray⟩, .int .i64 keep, .bool will, .string ⟨topic.toArray⟩, .bool clean, vN, vD]] w (FPost w0 w f o conn vA vC (publishF s topic text fl id).isNone s (optActs acts (publishF s topic text fl id))) := by
 have HF := Amk h
 have HL := Amk hl
 have HG := Amk hG
 have HBX := Amk (heap_alloc_new w (.cells (#[.int .i64 kind, .int .i64 (fl : Int), .int .i64 id, .int .i64 code, .string ⟨name.toArray⟩, .string ⟨text.toArray⟩, .int .i64 keep, .bool will, .string ⟨topic.toArray⟩, .bool clean, vN, vD]) 86))
 have HI : Aside0 (∀ W, WI W → Calls Tryz.prog 54 #[.int .i64 id] W fun e w' => e = .returned (.string (itoaB id)) ∧ Below W.heap.size W w') := ⟨fun W hG => itoa_calls id (by omega) (by omega) W hG⟩
 clear h hl hG hid0 hid1
 have qb := qos_bits fl hfl
 have kb := keep_bits fl hfl
 have hq4 : Aside0 (fl / 2 % 4 < 4) := ⟨Nat.mod_lt _ (by decide)⟩
 have hk2 : Aside0 (fl % 2 < 2) := ⟨Nat.mod_lt _ (by decide)⟩
 obtain ⟨q, hq⟩ : ∃ q, q = fl / 2 % 4 := ⟨_, rfl⟩
 rw [← hq] at hq4
 have HB0 : Aside0 (Below w.heap.size w ((w.alloc (.cells (#[.int .i64 kind, .int .i64 (fl : Int), .int .i64 id, .int .i64 code, .string ⟨name.toArray⟩, .string ⟨text.toArray⟩, .int .i64 keep, .bool will, .string ⟨topic.toArray⟩, .bool clean, vN, vD]) 86)).drew)) := ⟨bdr (bal (Below.refl _ _) _)⟩
 have hbox : Aside0 ((fun W => ∀ j, W.cell? ⟨w.heap.size, j, none⟩ = (#[.int .i64 kind, .int .i64 (fl : Int), .int .i64 id, .int .i64 code, .string ⟨name.toArray⟩, .string ⟨text.toArray⟩, .int .i64 keep, .bool will, .string ⟨topic.toArray⟩, .bool clean, vN, vD] : Array Value)[j]?) ((w.alloc (.cells (#[.int .i64 kind, .int .i64 (fl : Int), .int .i64 id, .int .i64 code, .string ⟨name.toArray⟩, .string ⟨text.toArray⟩, .int .i64 keep, .bool will, .string ⟨topic.toArray⟩, .bool clean, vN, vD]) 86)).drew)) := ⟨fun j => bqc HBX.out j⟩
 obtain ⟨m, hm⟩ : ∃ m : Int, bits .and .i64 ((fl : Int) / 2) 3 = m := ⟨_, rfl⟩
 have HMQ : Aside0 (m = (q : Int)) := ⟨by rw [← hm, qb, hq]⟩
 have HM : Aside0 (∀ W, WI W → Calls Tryz.prog 199 #[.string ⟨topic.toArray⟩, .string ⟨text.toArray⟩, .int .i64 m] W (MPost W (messageF topic text) text q)) := ⟨fun W hG => HMQ.out ▸ message_calls topic text q htl W hG⟩
 clear htl
 have HBO0 : Aside0 ((((w.alloc (.cells (#[.int .i64 kind, .int .i64 (fl : Int), .int .i64 id, .int .i64 code, .string ⟨name.toArray⟩, .string ⟨text.toArray⟩, .int .i64 keep, .bool will, .string ⟨topic.toArray⟩, .bool clean, vN, vD]) 86)).drew.alloc (.cells (opCells zOp none 0).toArray 64))).heap[w.heap.size + 1]? = some (.cells (opCells zOp none 0).toArray 64 (0, 0))) := ⟨by have := heap_alloc_new ((w.alloc (.cells (#[.int .i64 kind, .int .i64 (fl : Int), .int .i64 id, .int .i64 code, .string ⟨name.toArray⟩, .string ⟨text.toArray⟩, .int .i64 keep, .bool will, .string ⟨topic.toArray⟩, .bool clean, vN, vD]) 86)).drew) (.cells (opCells zOp none 0).toArray 64); rwa [World.size_drew, World.size_alloc] at this⟩
 unfold publishF
 rw [← hq]
 clear qb
 cases hmf : messageF topic text with
 | none =>
  rw [hmf] at HM
  clear hmf
  simp only [Option.isNone, optActs]
  go_enter Tryz.func125, Tryz.ntmps125
  go_upto_region 2 with (fail)
  refine wp_region_held_drew (S := (fun W => ∀ j, W.cell? ⟨w.heap.size, j, none⟩ = (#[.int .i64 kind, .int .i64 (fl : Int), .int .i64 id, .int .i64 code, .string ⟨name.toArray⟩, .string ⟨text.toArray⟩, .int .i64 keep, .bool will, .string ⟨topic.toArray⟩, .bool clean, vN, vD] : Array Value)[j]?)) (by kernel_rfl) hbox.out (fun hHeld => ?_)
  refine wpAnyH_take (i := 0) (v := ?_) rfl (by kernel_rfl) (by kernel_rfl) (by kernel_rfl) (fun _ _ _ h => h) (Or.inl ⟨by rfl, ?_⟩) hHeld ?_; rotate_left; focus (intro w_ hSw; (try dsimp only at hSw); go_simp; (try simp only [hSw]); (try rfl)); rotate_left; try simp only [Act.put, Lsa, Lsz, Lss]
  refine wpAnyH_take (i := 1) (v := ?_) rfl (by kernel_rfl) (by kernel_rfl) (by kernel_rfl) (fun _ _ _ h => h) (Or.inl ⟨by rfl, ?_⟩) hHeld ?_; rotate_left; focus (intro w_ hSw; (try dsimp only at hSw); go_simp; (try simp only [hSw]); (try rfl)); rotate_left; try simp only [Act.put, Lsa, Lsz, Lss]
  refine wpAnyH_take (i := 2) (v := ?_) rfl (by kernel_rfl) (by kernel_rfl) (by kernel_rfl) (fun _ _ _ h => h) (Or.inl ⟨by rfl, ?_⟩) hHeld ?_; rotate_left; focus (intro w_ hSw; (try dsimp only at hSw); go_simp; (try simp only [hSw]); (try rfl)); rotate_left; try simp only [Act.put, Lsa, Lsz, Lss]
  refine wpAnyH_take (i := 3) (v := ?_) rfl (by kernel_rfl) (by kernel_rfl) (by kernel_rfl) (fun _ _ _ h => h) (Or.inl ⟨by rfl, ?_⟩) hHeld ?_; rotate_left; focus (intro w_ hSw; (try dsimp only at hSw); go_simp; (try simp only [hSw]); (try rfl)); rotate_left; try simp only [Act.put, Lsa, Lsz, Lss]
  refine wpAnyH_take (i := 4) (v := ?_) rfl (by kernel_rfl) (by kernel_rfl) (by kernel_rfl) (fun _ _ _ h => h) (Or.inl ⟨by rfl, ?_⟩) hHeld ?_; rotate_left; focus (intro w_ hSw; (try dsimp only at hSw); go_simp; (try simp only [hSw]); (try rfl)); rotate_left; try simp only [Act.put, Lsa, Lsz, Lss]
  refine wpAnyH_take (i := 5) (v := ?_) rfl (by kernel_rfl) (by kernel_rfl) (by kernel_rfl) (fun _ _ _ h => h) (Or.inl ⟨by rfl, ?_⟩) hHeld ?_; rotate_left; focus (intro w_ hSw; (try dsimp only at hSw); go_simp; (try simp only [hSw]); (try rfl)); rotate_left; try simp only [Act.put, Lsa, Lsz, Lss]
  refine wpAnyH_take (i := 6) (v := ?_) rfl (by kernel_rfl) (by kernel_rfl) (by kernel_rfl) (fun _ _ _ h => h) (Or.inl ⟨by rfl, ?_⟩) hHeld ?_; rotate_left; focus (intro w_ hSw; (try dsimp only at hSw); go_simp; (try simp only [hSw]); (try rfl)); rotate_left; try simp only [Act.put, Lsa, Lsz, Lss]
  refine wpAnyH_take (i := 7) (v := ?_) rfl (by kernel_rfl) (by kernel_rfl) (by kernel_rfl) (fun _ _ _ h => h) (Or.inl ⟨by rfl, ?_⟩) hHeld ?_; rotate_left; focus (intro w_ hSw; (try dsimp only at hSw); go_simp; (try simp only [hSw]); (try rfl)); rotate_left; try simp only [Act.put, Lsa, Lsz, Lss]
  refine wpAnyH_take (i := 8) (v := ?_) rfl (by kernel_rfl) (by kernel_rfl) (by kernel_rfl) (fun _ _ _ h => h) (Or.inl ⟨by rfl, ?_⟩) hHeld ?_; rotate_left; focus (intro w_ hSw; (try dsimp only at hSw); go_simp; (try simp only [hSw]); (try rfl)); rotate_left; try simp only [Act.put, Lsa, Lsz, Lss]
  refine wpAnyH_ready (rs := [9, 11]) (by kernel_rfl) (by simp) ?_
  refine AllReadyH.cons rfl (fun K hK => ?_) (AllReadyH.cons rfl (fun K hK => ?_) AllReadyH.nil)
  ·
   go_simp
   go_wp2_with (go_at_call 199; refine (HM.out _ (HG.out.below HB0.out)).mono ?_; rintro e wq ⟨rfl, hb⟩; exact ⟨rfl, rfl, _, _, _, HF.out.below (bth HB0.out (by (try simp) <;> (try omega)) hb), (Went.refl w f o vA vC).below (bth HB0.out (by (try simp) <;> (try omega)) hb)⟩)
  ·
   go_simp
   (first | refine hK.out _ _ (fun j => bqc (bka HBX.out _) j) (fun hHeld => ?_) | refine hK _ _ (fun j => bqc (bka HBX.out _) j) (fun hHeld => ?_)); try simp only [Act.put, Lsa, Lsz, Lss]
   refine wpAnyH_ready (rs := [9]) (by kernel_rfl) (by simp) ?_
   refine AllReadyH.cons rfl (fun K hK => ?_) AllReadyH.nil
   go_simp
   go_wp2_with (go_at_call 199; refine (HM.out _ (HG.out.below (bal HB0.out _))).mono ?_; rintro e wq ⟨rfl, hb⟩; exact ⟨rfl, rfl, _, _, _, HF.out.below (bth (bal HB0.out _) (by (try simp) <;> (try omega)) hb), (Went.refl w f o vA vC).below (bth (bal HB0.out _) (by (try simp) <;> (try omega)) hb)⟩)
 | some t =>
  rw [hmf] at HM
  clear hmf
  simp only [Option.isNone, optActs]
  obtain ⟨mq, hmq⟩ : ∃ mq, decide (0 < q) = mq := ⟨_, rfl⟩
  have HM2 : Aside0 (∀ W, WI W → Calls Tryz.prog 199 #[.string ⟨topic.toArray⟩, .string ⟨text.toArray⟩, .int .i64 m] W fun e w' => e = .returned (.agg #[.string ⟨t.toArray⟩, .string ⟨text.toArray⟩, .slice none 0 0, .bool mq, .int .i64 0]) ∧ Below W.heap.size W w') := ⟨fun W hG => (HM.out W hG).mono (fun e w' hp => hmq ▸ hp)⟩
  obtain ⟨r, hr⟩ : ∃ r : Int, bits .and .i64 (fl : Int) 1 = r := ⟨_, rfl⟩
  obtain ⟨kq, hkq⟩ : ∃ kq, (r != 0) = kq := ⟨_, rfl⟩
  have HKQ : Aside0 (kq = decide (fl % 2 = 1)) := ⟨by rw [← hkq, ← hr, kb]; have := hk2.out; rcases (show fl % 2 = 0 ∨ fl % 2 = 1 by omega) with e | e <;> rw [e] <;> rfl⟩
  have HPO : Aside0 (pubOp t text fl = { zOp with kind := 5, keep := kq, topic := ⟨t.toArray⟩, body := ⟨text.toArray⟩, mdur := mq }) := ⟨by rw [pubOp, HKQ.out, ← hmq, hq]⟩
  rw [HPO.out]
  obtain ⟨ac, hac⟩ : ∃ ac, (if q = 0 then doAct 0 ⟨#[]⟩ [({ zOp with kind := 5, keep := kq, topic := ⟨t.toArray⟩, body := ⟨text.toArray⟩, mdur := mq } : BOp)] else if q = 1 then doAct 4 (itoaB id) [({ zOp with kind := 5, keep := kq, topic := ⟨t.toArray⟩, body := ⟨text.toArray⟩, mdur := mq } : BOp)] else doAct 5 (itoaB id) [({ zOp with kind := 5, keep := kq, topic := ⟨t.toArray⟩, body := ⟨text.toArray⟩, mdur := mq, text := s.client, n := id } : BOp)]) = ac := ⟨_, rfl⟩
  have HAC := Amk hac
  rw [show (if q = 0 then doAct 0 ⟨#[]⟩ _ else if q = 1 then doAct 4 (itoaB id) _ else doAct 5 (itoaB id) _) = ac from hac]
  clear hac
  have HQQ := Amk hq
  clear HM kb hmq hq HKQ
  go_enter Tryz.func125, Tryz.ntmps125
  go_upto_region 2 with (fail)
  go_cut [5] (fun s5 wx => ∃ b, s5 = .pointer (some ⟨b, 0, none⟩) ∧ Aside0 (wx.heap[b]? = some (.cells #[.int .i64 5, .int .i64 0, .int .i64 0, .int .i64 0, .string ⟨#[]⟩, .string ⟨#[]⟩, .bool false, .bool false, .bool kq, .string ⟨t.toArray⟩, .string ⟨text.toArray⟩, .slice none 0 0, .bool mq, .int .i64 0] 64 (0, 0))) ∧ Aside0 (w.heap.size ≤ b ∧ b ≠ w.heap.size) ∧ Aside0 (Below w.heap.size w wx) ∧ Aside0 (wx.heap[w.heap.size]? = some (.cells (#[.int .i64 kind, .int .i64 (fl : Int), .int .i64 id, .int .i64 code, .string ⟨name.toArray⟩, .string ⟨text.toArray⟩, .int .i64 keep, .bool will, .string ⟨topic.toArray⟩, .bool clean, vN, vD]) 86 (0, 0))))
  case first =>
   refine wp_region_held_drew (S := (fun W => ∀ j, W.cell? ⟨w.heap.size, j, none⟩ = (#[.int .i64 kind, .int .i64 (fl : Int), .int .i64 id, .int .i64 code, .string ⟨name.toArray⟩, .string ⟨text.toArray⟩, .int .i64 keep, .bool will, .string ⟨topic.toArray⟩, .bool clean, vN, vD] : Array Value)[j]?)) (by kernel_rfl) hbox.out (fun hHeld => ?_)
   refine wpAnyH_take (i := 0) (v := ?_) rfl (by kernel_rfl) (by kernel_rfl) (by kernel_rfl) (fun _ _ _ h => h) (Or.inl ⟨by rfl, ?_⟩) hHeld ?_; rotate_left; focus (intro w_ hSw; (try dsimp only at hSw); go_simp; (try simp only [hSw]); (try rfl)); rotate_left; try simp only [Act.put, Lsa, Lsz, Lss]
   refine wpAnyH_take (i := 1) (v := ?_) rfl (by kernel_rfl) (by kernel_rfl) (by kernel_rfl) (fun _ _ _ h => h) (Or.inl ⟨by rfl, ?_⟩) hHeld ?_; rotate_left; focus (intro w_ hSw; (try dsimp only at hSw); go_simp; (try simp only [hSw]); (try rfl)); rotate_left; try simp only [Act.put, Lsa, Lsz, Lss]
   refine wpAnyH_take (i := 2) (v := ?_) rfl (by kernel_rfl) (by kernel_rfl) (by kernel_rfl) (fun _ _ _ h => h) (Or.inl ⟨by rfl, ?_⟩) hHeld ?_; rotate_left; focus (intro w_ hSw; (try dsimp only at hSw); go_simp; (try simp only [hSw]); (try rfl)); rotate_left; try simp only [Act.put, Lsa, Lsz, Lss]
   refine wpAnyH_take (i := 3) (v := ?_) rfl (by kernel_rfl) (by kernel_rfl) (by kernel_rfl) (fun _ _ _ h => h) (Or.inl ⟨by rfl, ?_⟩) hHeld ?_; rotate_left; focus (intro w_ hSw; (try dsimp only at hSw); go_simp; (try simp only [hSw]); (try rfl)); rotate_left; try simp only [Act.put, Lsa, Lsz, Lss]
   refine wpAnyH_take (i := 4) (v := ?_) rfl (by kernel_rfl) (by kernel_rfl) (by kernel_rfl) (fun _ _ _ h => h) (Or.inl ⟨by rfl, ?_⟩) hHeld ?_; rotate_left; focus (intro w_ hSw; (try dsimp only at hSw); go_simp; (try simp only [hSw]); (try rfl)); rotate_left; try simp only [Act.put, Lsa, Lsz, Lss]
   refine wpAnyH_take (i := 5) (v := ?_) rfl (by kernel_rfl) (by kernel_rfl) (by kernel_rfl) (fun _ _ _ h => h) (Or.inl ⟨by rfl, ?_⟩) hHeld ?_; rotate_left; focus (intro w_ hSw; (try dsimp only at hSw); go_simp; (try simp only [hSw]); (try rfl)); rotate_left; try simp only [Act.put, Lsa, Lsz, Lss]
   refine wpAnyH_take (i := 6) (v := ?_) rfl (by kernel_rfl) (by kernel_rfl) (by kernel_rfl) (fun _ _ _ h => h) (Or.inl ⟨by rfl, ?_⟩) hHeld ?_; rotate_left; focus (intro w_ hSw; (try dsimp only at hSw); go_simp; (try simp only [hSw]); (try rfl)); rotate_left; try simp only [Act.put, Lsa, Lsz, Lss]
   refine wpAnyH_take (i := 7) (v := ?_) rfl (by kernel_rfl) (by kernel_rfl) (by kernel_rfl) (fun _ _ _ h => h) (Or.inl ⟨by rfl, ?_⟩) hHeld ?_; rotate_left; focus (intro w_ hSw; (try dsimp only at hSw); go_simp; (try simp only [hSw]); (try rfl)); rotate_left; try simp only [Act.put, Lsa, Lsz, Lss]
   refine wpAnyH_take (i := 8) (v := ?_) rfl (by kernel_rfl) (by kernel_rfl) (by kernel_rfl) (fun _ _ _ h => h) (Or.inl ⟨by rfl, ?_⟩) hHeld ?_; rotate_left; focus (intro w_ hSw; (try dsimp only at hSw); go_simp; (try simp only [hSw]); (try rfl)); rotate_left; try simp only [Act.put, Lsa, Lsz, Lss]
   refine wpAnyH_ready (rs := [9, 11]) (by kernel_rfl) (by simp) ?_
   refine AllReadyH.cons rfl (fun K hK => ?_) (AllReadyH.cons rfl (fun K hK => ?_) AllReadyH.nil)
   ·
    go_simp
    go_wp2_with (go_at_call 199; refine (HM2.out _ (HG.out.below HB0.out)).mono ?_; rintro e wq ⟨rfl, hb⟩; have HB1 : Aside0 (Below w.heap.size w wq) := ⟨bth HB0.out (by (try simp) <;> (try omega)) hb⟩; have HBX1 := Amk ((hb.block w.heap.size (by (try simp) <;> (try omega))).trans HBX.out); clear hb)
    (first | refine hK.out _ _ (fun j => bqc HBX1.out j) (fun hHeld => ?_) | refine hK _ _ (fun j => bqc HBX1.out j) (fun hHeld => ?_)); try simp only [Act.put, Lsa, Lsz, Lss]
    refine wpAnyH_take (i := 10) (v := ?_) rfl (by kernel_rfl) (by kernel_rfl) (by kernel_rfl) (fun _ _ _ h => h) (Or.inl ⟨by rfl, ?_⟩) hHeld ?_; rotate_left; focus (intro w_ hSw; (try dsimp only at hSw); go_simp; (try simp only [hSw]); (try rfl)); rotate_left; try simp only [Act.put, Lsa, Lsz, Lss]
    refine wpAnyH_ready (rs := [11]) (by kernel_rfl) (by simp) ?_
    refine AllReadyH.cons rfl (fun K hK => ?_) AllReadyH.nil
    go_simp
    (first | refine hK.out _ _ (fun j => bqc (bka HBX1.out _) j) (fun hHeld => ?_) | refine hK _ _ (fun j => bqc (bka HBX1.out _) j) (fun hHeld => ?_)); try simp only [Act.put, Lsa, Lsz, Lss]
    refine wpAnyH_ready (rs := [12]) (by kernel_rfl) (by simp) ?_
    refine AllReadyH.cons rfl (fun K hK => ?_) AllReadyH.nil
    rw [if_pos (by rfl)]
    refine wp_store_blk 64 (.tmp 5) (.tmp 20) rfl rfl (g := wq.heap.size) (e := 64) _ [.int .i64 5, .int .i64 0, .int .i64 0, .int .i64 0, .string ⟨#[]⟩, .string ⟨#[]⟩, .bool false, .bool false, .bool kq, .string ⟨t.toArray⟩, .string ⟨text.toArray⟩, .slice none 0 0, .bool mq, .int .i64 0] rfl rfl rfl (heap_alloc_new wq _) (by kernel_rfl) rfl (by simp [Value.oneCell']) (fun W1 HW => ?_)
    have HW1 := Amk HW
    clear HW
    (first | refine hK.out _ _ (fun j => bqc (HW1.out.blk_ (bka HBX1.out _) (by have := blt HBX1.out; omega)) j) (fun hHeld => ?_) | refine hK _ _ (fun j => bqc (HW1.out.blk_ (bka HBX1.out _) (by have := blt HBX1.out; omega)) j) (fun hHeld => ?_)); try simp only [Act.put, Lsa, Lsz, Lss]
    refine wpAnyH_done (by kernel_rfl) ?_ _
    clear hK K
    go_wp2_with fail
    go_meet
    exact ⟨_, rfl, ⟨HW1.out.blk⟩, ⟨HB1.out.size, Nat.ne_of_gt (blt HBX1.out)⟩, ⟨HW1.out.below (bal HB1.out _) (Nat.le_trans HB1.out.size (by simp)) HB1.out.size⟩, ⟨HW1.out.blk_ (bka HBX1.out _) (Nat.ne_of_lt (blt HBX1.out))⟩⟩
   ·
    go_simp
    (first | refine hK.out _ _ (fun j => bqc (bka HBX.out _) j) (fun hHeld => ?_) | refine hK _ _ (fun j => bqc (bka HBX.out _) j) (fun hHeld => ?_)); try simp only [Act.put, Lsa, Lsz, Lss]
    refine wpAnyH_ready (rs := [9]) (by kernel_rfl) (by simp) ?_
    refine AllReadyH.cons rfl (fun K hK => ?_) AllReadyH.nil
    go_simp
    go_wp2_with (go_at_call 199; refine (HM2.out _ (HG.out.below (bal HB0.out _))).mono ?_; rintro e wq ⟨rfl, hb⟩; have HB1 : Aside0 (Below w.heap.size w wq) := ⟨bth (bal HB0.out _) (by (try simp) <;> (try omega)) hb⟩; have HBX1 := Amk ((hb.block w.heap.size (by (try simp) <;> (try omega))).trans (bka HBX.out _)); have HBO1 := Amk ((hb.block (w.heap.size + 1) (by (try simp) <;> (try omega))).trans HBO0.out); clear hb)
    (first | refine hK.out _ _ (fun j => bqc HBX1.out j) (fun hHeld => ?_) | refine hK _ _ (fun j => bqc HBX1.out j) (fun hHeld => ?_)); try simp only [Act.put, Lsa, Lsz, Lss]
    refine wpAnyH_take (i := 10) (v := ?_) rfl (by kernel_rfl) (by kernel_rfl) (by kernel_rfl) (fun _ _ _ h => h) (Or.inl ⟨by rfl, ?_⟩) hHeld ?_; rotate_left; focus (intro w_ hSw; (try dsimp only at hSw); go_simp; (try simp only [hSw]); (try rfl)); rotate_left; try simp only [Act.put, Lsa, Lsz, Lss]
    refine wpAnyH_ready (rs := [12]) (by kernel_rfl) (by simp) ?_
    refine AllReadyH.cons rfl (fun K hK => ?_) AllReadyH.nil
    rw [if_pos (by rfl)]
    refine wp_store_blk 64 (.tmp 5) (.tmp 20) rfl rfl (g := w.heap.size + 1) (e := 64) _ [.int .i64 5, .int .i64 0, .int .i64 0, .int .i64 0, .string ⟨#[]⟩, .string ⟨#[]⟩, .bool false, .bool false, .bool kq, .string ⟨t.toArray⟩, .string ⟨text.toArray⟩, .slice none 0 0, .bool mq, .int .i64 0] rfl rfl rfl HBO1.out (by kernel_rfl) rfl (by simp [Value.oneCell']) (fun W1 HW => ?_)
    have HW1 := Amk HW
    clear HW
    (first | refine hK.out _ _ (fun j => bqc (HW1.out.blk_ HBX1.out (by omega)) j) (fun hHeld => ?_) | refine hK _ _ (fun j => bqc (HW1.out.blk_ HBX1.out (by omega)) j) (fun hHeld => ?_)); try simp only [Act.put, Lsa, Lsz, Lss]
    refine wpAnyH_done (by kernel_rfl) ?_ _
    clear hK K
    try go_simp
    go_wp2_with fail
    go_meet
    exact ⟨_, rfl, ⟨HW1.out.blk⟩, ⟨Nat.le_succ _, by omega⟩, ⟨HW1.out.below HB1.out HB1.out.size (Nat.le_succ _)⟩, ⟨HW1.out.blk_ HBX1.out (by omega)⟩⟩
  case rest =>
   obtain ⟨b, rfl, HOP, HBB, HBB2, HBX2⟩ := hcut
   clear HM2 HBX HB0 hbox HBO0 hm
   have HGx := Amk (HG.out.below HBB2.out)
   have HFx := Amk (HF.out.below HBB2.out)
   have HWx := Amk ((Went.refl w f o vA vC).below HBB2.out)
   rcases q with _ | _ | q
   ·
    have hm0 : m = 0 := by simpa using HMQ.out
    subst hm0
    have HAD : Aside0 (ac = doAct 0 ⟨#[]⟩ [({ zOp with kind := 5, keep := kq, topic := ⟨t.toArray⟩, body := ⟨text.toArray⟩, mdur := mq } : BOp)]) := ⟨by rw [← HAC.out, if_pos rfl]⟩
    go_wp2_with (first | ((with_reducible refine gate_dst (N := 43) rfl ?_); refine wpList_load_row rfl 64 (.tmp 5) rfl b rfl 64 #[.int .i64 5, .int .i64 0, .int .i64 0, .int .i64 0, .string ⟨#[]⟩, .string ⟨#[]⟩, .bool false, .bool false, .bool kq, .string ⟨t.toArray⟩, .string ⟨text.toArray⟩, .slice none 0 0, .bool mq, .int .i64 0] (0, 0) _ HOP.out Tryz.underlying64 rfl (by kernel_rfl) ?_) | (go_at_call 126; refine (do_calls w0 _ f o s conn acts vW vC vA (HFx.out.alloc _) HL.out 0 ⟨#[]⟩ _ 1 [({ zOp with kind := 5, keep := kq, topic := ⟨t.toArray⟩, body := ⟨text.toArray⟩, mdur := mq } : BOp)] (ops_one (x := ({ zOp with kind := 5, keep := kq, topic := ⟨t.toArray⟩, body := ⟨text.toArray⟩, mdur := mq } : BOp)) (heap_alloc_new _ _)) (one_le _)).mono ?_; rintro e wq ⟨rfl, vW', vC', vA', hf, hk⟩; have HF1 := Amk hf; have HK1 := Amk hk; clear hf hk))
    go_end0
    rw [HAD.out]
    exact ⟨rfl, _, _, _, HF1.out, HWx.out.trans (Went.after (bal (Below.refl _ _) _) HK1.out)⟩
   ·
    have hm1 : m = 1 := by simpa using HMQ.out
    subst hm1
    have HAD : Aside0 (ac = doAct 4 (itoaB id) [({ zOp with kind := 5, keep := kq, topic := ⟨t.toArray⟩, body := ⟨text.toArray⟩, mdur := mq } : BOp)]) := ⟨by rw [← HAC.out, if_neg (by decide), if_pos rfl]⟩
    go_upto_region 9 with (fail)
    have HXD : Aside0 (wc.drew.heap[w.heap.size]? = some (.cells (#[.int .i64 kind, .int .i64 (fl : Int), .int .i64 id, .int .i64 code, .string ⟨name.toArray⟩, .string ⟨text.toArray⟩, .int .i64 keep, .bool will, .string ⟨topic.toArray⟩, .bool clean, vN, vD]) 86 (0, 0))) := ⟨HBX2.out⟩
    have HOD : Aside0 (wc.drew.heap[b]? = some (.cells #[.int .i64 5, .int .i64 0, .int .i64 0, .int .i64 0, .string ⟨#[]⟩, .string ⟨#[]⟩, .bool false, .bool false, .bool kq, .string ⟨t.toArray⟩, .string ⟨text.toArray⟩, .slice none 0 0, .bool mq, .int .i64 0] 64 (0, 0))) := ⟨HOP.out⟩
    have HFD := Amk HFx.out.drew
    have HGD := Amk (HGx.out.below (bdr (Below.refl wc.heap.size wc)))
    have HWD := Amk (HWx.out.below (bdr (Below.refl wc.heap.size wc)))
    go_region_held3 (fun W => (∀ j, W.cell? ⟨w.heap.size, j, none⟩ = (#[.int .i64 kind, .int .i64 (fl : Int), .int .i64 id, .int .i64 code, .string ⟨name.toArray⟩, .string ⟨text.toArray⟩, .int .i64 keep, .bool will, .string ⟨topic.toArray⟩, .bool clean, vN, vD] : Array Value)[j]?) ∧ (∀ j, W.cell? ⟨b, j, none⟩ = (#[.int .i64 5, .int .i64 0, .int .i64 0, .int .i64 0, .string ⟨#[]⟩, .string ⟨#[]⟩, .bool false, .bool false, .bool kq, .string ⟨t.toArray⟩, .string ⟨text.toArray⟩, .slice none 0 0, .bool mq, .int .i64 0] : Array Value)[j]?)) (first | with_reducible exact ⟨fun j => bqc HX4.out j, fun j => bqc HO4.out j⟩ | with_reducible exact ⟨fun j => bqc HXE.out j, fun j => bqc HOE.out j⟩ | exact ⟨fun j => bqc (bka HXE.out _) j, fun j => bqc (bka HOE.out _) j⟩ | with_reducible exact ⟨fun j => bqc HXD.out j, fun j => bqc HOD.out j⟩ | exact ⟨fun j => bqc (bka HXD.out _) j, fun j => bqc (bka HOD.out _) j⟩) (first
     | (go_at_call 54; first
      | (with_reducible refine Calls.mono (HI.out _ HGD.out) ?_; rintro e w1 ⟨rfl, hb⟩; have HXE := Amk ((hb.block _ (blt HXD.out)).trans HXD.out); have HOE := Amk ((hb.block _ (blt HOD.out)).trans HOD.out); have HF3 := Amk (HFD.out.below hb); have HW3 := Amk (HWD.out.below hb); clear hb)
      | (refine Calls.mono (HI.out _ (HGD.out.below (bal (Below.refl _ _) _))) ?_; rintro e w1 ⟨rfl, hb⟩; have HXE := Amk ((hb.block _ (blt (bka HXD.out _))).trans (bka HXD.out _)); have HOE := Amk ((hb.block _ (blt (bka HOD.out _))).trans (bka HOD.out _)); have HF3 := Amk ((HFD.out.alloc _).below hb); have HW3 := Amk ((HWD.out.below (bal (Below.refl _ _) _)).below hb); have HR3 := Amk ((hb.block _ (blt (heap_alloc_new _ _))).trans (heap_alloc_new _ _)); clear hb))
     | (go_at_call 126; first
      | (have := HR3; (refine (do_calls w0 _ f o s conn acts vW vC vA (HF3.out) HL.out 4 (itoaB id) _ 1 [({ zOp with kind := 5, keep := kq, topic := ⟨t.toArray⟩, body := ⟨text.toArray⟩, mdur := mq } : BOp)] (ops_one (x := ({ zOp with kind := 5, keep := kq, topic := ⟨t.toArray⟩, body := ⟨text.toArray⟩, mdur := mq } : BOp)) (HR3.out)) (one_le _)).mono ?_; rintro e wq ⟨rfl, vW', vC', vA', hf, hk⟩; have HF1 := Amk hf; have HK1 : Aside0 (Went w wq f o vA vC vA' vC') := ⟨HW3.out.trans hk⟩; have HX4 := Amk (blk_kept HXE.out hk.kept (HF.out.far (Nat.le_refl _))); have HO4 := Amk (blk_kept HOE.out hk.kept (HF.out.far HBB.out.1)); clear hf hk))
      | (refine (do_calls w0 _ f o s conn acts vW vC vA (HF3.out.alloc _) HL.out 4 (itoaB id) _ 1 [({ zOp with kind := 5, keep := kq, topic := ⟨t.toArray⟩, body := ⟨text.toArray⟩, mdur := mq } : BOp)] (ops_one (x := ({ zOp with kind := 5, keep := kq, topic := ⟨t.toArray⟩, body := ⟨text.toArray⟩, mdur := mq } : BOp)) (heap_alloc_new _ _)) (one_le _)).mono ?_; rintro e wq ⟨rfl, vW', vC', vA', hf, hk⟩; have HF1 := Amk hf; have HK1 : Aside0 (Went w wq f o vA vC vA' vC') := ⟨(HW3.out.below (bal (Below.refl _ _) _)).trans hk⟩; have HX4 := Amk (blk_kept (bka HXE.out _) hk.kept (HF.out.far (Nat.le_refl _))); have HO4 := Amk (blk_kept (bka HOE.out _) hk.kept (HF.out.far HBB.out.1)); clear hf hk)))
    all_goals go_wp2_with fail
    all_goals go_end0
    all_goals rw [HAD.out]
    all_goals exact ⟨rfl, _, _, _, HF1.out, HK1.out⟩
   ·
    have hm2 : ¬ m = 0 := by have := HMQ.out; omega
    have hm3 : ¬ m = 1 := by have := HMQ.out; omega
    have HAD : Aside0 (ac = doAct 5 (itoaB id) [({ zOp with kind := 5, keep := kq, topic := ⟨t.toArray⟩, body := ⟨text.toArray⟩, mdur := mq, text := s.client, n := id } : BOp)]) := ⟨by rw [← HAC.out, if_neg (by omega), if_neg (by omega)]⟩
    have c0 := HFx.out.c0
    have c3 := (HFx.out.cell 3).trans (show _ = some (Value.string s.client) from rfl)
    have cx := (bqc HBX2.out 2).trans (show _ = some (Value.int .i64 id) from rfl)
    have z5 := blk_frozen HOP.out 5
    have z3 := blk_frozen HOP.out 3
    have o5 := (bqc HOP.out 5).trans (show _ = some (Value.string ⟨#[]⟩) from rfl)
    have o3 := (bqc HOP.out 3).trans (show _ = some (Value.int .i64 0) from rfl)
    go_upto_region 4 with (fail)
    have hob : o ≠ b := blk_ne HFx.out.own.blk HOP.out (by decide)
    have hfb : f ≠ b := blk_ne HFx.out.fb HOP.out (by decide)
    have hxb : w.heap.size ≠ b := Ne.symm HBB.out.2
    go_region_held3 (fun W => W.cell? ⟨f, 0, none⟩ = some (.pointer (some ⟨o, 0, none⟩)) ∧ W.cell? ⟨o, 3, none⟩ = some (.string s.client) ∧ W.cell? ⟨w.heap.size, 2, none⟩ = some (.int .i64 id)) (first | exact ⟨c0, c3, cx⟩ | exact ⟨(bqc (blk_far HFx.out.fb hfb _) 0).trans rfl, (bqc (blk_far HFx.out.own.blk hob _) 3).trans rfl, (bqc (blk_far HBX2.out hxb _) 2).trans rfl⟩ | exact ⟨(bqc (blk_far (blk_far HFx.out.fb hfb _) hfb _) 0).trans rfl, (bqc (blk_far (blk_far HFx.out.own.blk hob _) hob _) 3).trans rfl, (bqc (blk_far (blk_far HBX2.out hxb _) hxb _) 2).trans rfl⟩) (fail)
    have HOP5 : Aside0 ((((wc.setCell ⟨b, 5, none⟩ (.string s.client)).setCell ⟨b, 3, none⟩ (.int .i64 id)).drew).heap[b]? = some (.cells #[.int .i64 5, .int .i64 0, .int .i64 0, .int .i64 id, .string ⟨#[]⟩, .string s.client, .bool false, .bool false, .bool kq, .string ⟨t.toArray⟩, .string ⟨text.toArray⟩, .slice none 0 0, .bool mq, .int .i64 0] 64 (0, 0))) := ⟨show ((wc.setCell ⟨b, 5, none⟩ (.string s.client)).setCell ⟨b, 3, none⟩ (.int .i64 id)).heap[b]? = _ from by simpa using blk_set (blk_set HOP.out 5 (.string s.client)) 3 (.int .i64 id)⟩
    have HBX5 : Aside0 ((((wc.setCell ⟨b, 5, none⟩ (.string s.client)).setCell ⟨b, 3, none⟩ (.int .i64 id)).drew).heap[w.heap.size]? = some (.cells (#[.int .i64 kind, .int .i64 (fl : Int), .int .i64 id, .int .i64 code, .string ⟨name.toArray⟩, .string ⟨text.toArray⟩, .int .i64 keep, .bool will, .string ⟨topic.toArray⟩, .bool clean, vN, vD]) 86 (0, 0))) := ⟨blk_far (blk_far HBX2.out hxb _) hxb _⟩
    have HBB5 : Aside0 (Below w.heap.size w (((wc.setCell ⟨b, 5, none⟩ (.string s.client)).setCell ⟨b, 3, none⟩ (.int .i64 id)).drew)) := ⟨bdr (below_set (below_set HBB2.out HBB.out.1) HBB.out.1)⟩
    clear HGx HFx HWx c0 c3 cx z5 z3 o5 o3 HOP HBX2 HBB2
    generalize ((wc.setCell ⟨b, 5, none⟩ (.string s.client)).setCell ⟨b, 3, none⟩ (.int .i64 id)).drew = w5 at *
    have HGx := Amk (HG.out.below HBB5.out)
    have HFx := Amk (HF.out.below HBB5.out)
    have HWx := Amk ((Went.refl w f o vA vC).below HBB5.out)
    go_upto_region 5 with (fail)
    have HXD : Aside0 (w5.drew.heap[w.heap.size]? = some (.cells (#[.int .i64 kind, .int .i64 (fl : Int), .int .i64 id, .int .i64 code, .string ⟨name.toArray⟩, .string ⟨text.toArray⟩, .int .i64 keep, .bool will, .string ⟨topic.toArray⟩, .bool clean, vN, vD]) 86 (0, 0))) := ⟨HBX5.out⟩
    have HOD : Aside0 (w5.drew.heap[b]? = some (.cells #[.int .i64 5, .int .i64 0, .int .i64 0, .int .i64 id, .string ⟨#[]⟩, .string s.client, .bool false, .bool false, .bool kq, .string ⟨t.toArray⟩, .string ⟨text.toArray⟩, .slice none 0 0, .bool mq, .int .i64 0] 64 (0, 0))) := ⟨HOP5.out⟩
    have HFD := Amk HFx.out.drew
    have HGD := Amk (HGx.out.below (bdr (Below.refl w5.heap.size w5)))
    have HWD := Amk (HWx.out.below (bdr (Below.refl w5.heap.size w5)))
    go_region_held3 (fun W => (∀ j, W.cell? ⟨w.heap.size, j, none⟩ = (#[.int .i64 kind, .int .i64 (fl : Int), .int .i64 id, .int .i64 code, .string ⟨name.toArray⟩, .string ⟨text.toArray⟩, .int .i64 keep, .bool will, .string ⟨topic.toArray⟩, .bool clean, vN, vD] : Array Value)[j]?) ∧ (∀ j, W.cell? ⟨b, j, none⟩ = (#[.int .i64 5, .int .i64 0, .int .i64 0, .int .i64 id, .string ⟨#[]⟩, .string s.client, .bool false, .bool false, .bool kq, .string ⟨t.toArray⟩, .string ⟨text.toArray⟩, .slice none 0 0, .bool mq, .int .i64 0] : Array Value)[j]?)) (first | with_reducible exact ⟨fun j => bqc HX4.out j, fun j => bqc HO4.out j⟩ | with_reducible exact ⟨fun j => bqc HXE.out j, fun j => bqc HOE.out j⟩ | exact ⟨fun j => bqc (bka HXE.out _) j, fun j => bqc (bka HOE.out _) j⟩ | with_reducible exact ⟨fun j => bqc HXD.out j, fun j => bqc HOD.out j⟩ | exact ⟨fun j => bqc (bka HXD.out _) j, fun j => bqc (bka HOD.out _) j⟩) (first
     | (go_at_call 54; first
      | (with_reducible refine Calls.mono (HI.out _ HGD.out) ?_; rintro e w1 ⟨rfl, hb⟩; have HXE := Amk ((hb.block _ (blt HXD.out)).trans HXD.out); have HOE := Amk ((hb.block _ (blt HOD.out)).trans HOD.out); have HF3 := Amk (HFD.out.below hb); have HW3 := Amk (HWD.out.below hb); clear hb)
      | (refine Calls.mono (HI.out _ (HGD.out.below (bal (Below.refl _ _) _))) ?_; rintro e w1 ⟨rfl, hb⟩; have HXE := Amk ((hb.block _ (blt (bka HXD.out _))).trans (bka HXD.out _)); have HOE := Amk ((hb.block _ (blt (bka HOD.out _))).trans (bka HOD.out _)); have HF3 := Amk ((HFD.out.alloc _).below hb); have HW3 := Amk ((HWD.out.below (bal (Below.refl _ _) _)).below hb); have HR3 := Amk ((hb.block _ (blt (heap_alloc_new _ _))).trans (heap_alloc_new _ _)); clear hb))
     | (go_at_call 126; first
      | (have := HR3; (refine (do_calls w0 _ f o s conn acts vW vC vA (HF3.out) HL.out 5 (itoaB id) _ 1 [({ zOp with kind := 5, keep := kq, topic := ⟨t.toArray⟩, body := ⟨text.toArray⟩, mdur := mq, text := s.client, n := id } : BOp)] (ops_one (x := ({ zOp with kind := 5, keep := kq, topic := ⟨t.toArray⟩, body := ⟨text.toArray⟩, mdur := mq, text := s.client, n := id } : BOp)) (HR3.out)) (one_le _)).mono ?_; rintro e wq ⟨rfl, vW', vC', vA', hf, hk⟩; have HF1 := Amk hf; have HK1 : Aside0 (Went w wq f o vA vC vA' vC') := ⟨HW3.out.trans hk⟩; have HX4 := Amk (blk_kept HXE.out hk.kept (HF.out.far (Nat.le_refl _))); have HO4 := Amk (blk_kept HOE.out hk.kept (HF.out.far HBB.out.1)); clear hf hk))
      | (refine (do_calls w0 _ f o s conn acts vW vC vA (HF3.out.alloc _) HL.out 5 (itoaB id) _ 1 [({ zOp with kind := 5, keep := kq, topic := ⟨t.toArray⟩, body := ⟨text.toArray⟩, mdur := mq, text := s.client, n := id } : BOp)] (ops_one (x := ({ zOp with kind := 5, keep := kq, topic := ⟨t.toArray⟩, body := ⟨text.toArray⟩, mdur := mq, text := s.client, n := id } : BOp)) (heap_alloc_new _ _)) (one_le _)).mono ?_; rintro e wq ⟨rfl, vW', vC', vA', hf, hk⟩; have HF1 := Amk hf; have HK1 : Aside0 (Went w wq f o vA vC vA' vC') := ⟨(HW3.out.below (bal (Below.refl _ _) _)).trans hk⟩; have HX4 := Amk (blk_kept (bka HXE.out _) hk.kept (HF.out.far (Nat.le_refl _))); have HO4 := Amk (blk_kept (bka HOE.out _) hk.kept (HF.out.far HBB.out.1)); clear hf hk)))
    all_goals go_wp2_with fail
    all_goals go_end0
    all_goals rw [HAD.out]
    all_goals exact ⟨rfl, _, _, _, HF1.out, HK1.out⟩
def anonL (conn : Int) : List UInt8 := [97, 110, 111, 110] ++ Lib.itoa conn
theorem anon_add (conn : Int) : (⟨#[97, 110, 111, 110]⟩ : ByteArray) ++ itoaB conn = ⟨(anonL conn).toArray⟩ := by
 rw [ByteArray.ext_iff]; simp [anonL, itoaB]
theorem decDigits_le : ∀ (k u : Nat), u < 10 ^ (k + 1) → (Lib.decDigits u).length ≤ k + 1
 | 0, u, h => by rw [Lib.decDigits, dif_pos (by simpa using h)]; simp
 | k + 1, u, h => by
  rw [Lib.decDigits]
  split
  ·
   simp
  ·
   have := decDigits_le k (u / 10) (by rw [Nat.pow_succ] at h; omega)
   simp only [List.length_append, List.length_singleton]; omega
theorem itoa_len (n : Int) (h0 : 0 ≤ n) (h1 : n ≤ 9223372036854775807) : (Lib.itoa n).length ≤ 19 := by
 unfold Lib.itoa
 rw [if_neg (by omega)]
 exact decDigits_le 18 _ (by omega)
theorem code_bits (c : Nat) (h : c < 256) : (bits .and .i64 (c : Int) 32 != 0) = decide (c / 32 % 2 = 1) ∧ bits .and .i64 ((c : Int) / 8) 3 = ((c / 8 % 4 : Nat) : Int) := by
 have : ∀ x : Fin 256, (bits .and .i64 (x.val : Int) 32 != 0) = decide (x.val / 32 % 2 = 1) ∧ bits .and .i64 ((x.val : Int) / 8) 3 = ((x.val / 8 % 4 : Nat) : Int) := by decide +kernel
 exact this ⟨c, h⟩
theorem R_one (W : World) (base : Nat) (x : BOp) (hb : base ≤ W.heap.size) : kOp.R 64 (W.alloc (.cells (opCells x none 0).toArray 64)) base (fun _ => True) (.slice (some ⟨W.heap.size, 0, none⟩) 1 1) [x] :=
 ⟨fun _ _ => trivial, OwnRow.lit W base (ps := [x]) (Reps.snoc (ps := []) (cs := []) (Reps.none _ _) (show kOp.M _ _ _ x (opCells x none 0) from ⟨none, 0, rfl⟩) rfl) hb (by simp)⟩
theorem cells3 {W : World} {f x : Nat} {cf cx : Array Value} {v0 v4 v9 : Value} (h1 : W.heap[f]? = some (.cells cf 106 (0, 0))) (h2 : W.heap[x]? = some (.cells cx 86 (0, 0))) (e0 : cf[0]? = some v0) (e4 : cx[4]? = some v4) (e9 : cx[9]? = some v9) :
  W.cell? ⟨f, 0, none⟩ = some v0 ∧ W.cell? ⟨x, 4, none⟩ = some v4 ∧ W.cell? ⟨x, 9, none⟩ = some v9 := ⟨(bqc h1 0).trans e0, (bqc h2 4).trans e4, (bqc h2 9).trans e9⟩
theorem blk_drew {W : World} {g : Nat} {o : Obj} (h : W.heap[g]? = some o) : W.drew.heap[g]? = some o := h
theorem Went.drew {w w1 : World} {f o : Nat} {vA vC vA1 vC1 : Value} (h : Went w w1 f o vA vC vA1 vC1) : Went w w1.drew f o vA vC vA1 vC1 := h.below (bdr (Below.refl _ _))
theorem R_two (W : World) (base : Nat) (x y : BOp) (hb : base ≤ W.heap.size) : kOp.R 64 (W.alloc (.cells (opCells x none 0 ++ opCells y none 0).toArray 64)) base (fun _ => True) (.slice (some ⟨W.heap.size, 0, none⟩) 2 2) [x, y] :=
 ⟨fun _ _ => trivial, OwnRow.lit W base (ps := [x, y]) (Reps.snoc (ps := [x]) (cs := opCells x none 0) (Reps.snoc (ps := []) (cs := []) (Reps.none _ _) (show kOp.M _ _ _ x (opCells x none 0) from ⟨none, 0, rfl⟩) rfl) (show kOp.M _ _ _ y (opCells y none 0) from ⟨none, 0, rfl⟩) rfl) hb (by simp)⟩
theorem R_kept {α : Type} {d : Kd α} {e base : Nat} {ok : Nat → Prop} {v : Value} {xs : List α} {W W1 : World} {S : Nat → Prop} (h : d.R e W base ok v xs) (hk : Kept W W1 S) (hS : ∀ k, base ≤ k → ¬ S k) : d.R e W1 base ok v xs :=
 Kd.R_mono (Kd.R_move (Kd.R_bound h) (fun k hk' => hk.2 k hk'.2.2.1 (hS k hk'.2.1))) (fun _ hk => hk.1)
def nameF (name : List UInt8) (clean : Bool) (conn : Int) : List UInt8 := if name = [] ∧ clean = true then anonL conn else name
def queueL (nm : List UInt8) : ByteArray := ⟨#[109, 45]⟩ ++ ⟨nm.toArray⟩
def willOp (t text : List UInt8) (code : Nat) : BOp := { zOp with kind := 5, keep := decide (code / 32 % 2 = 1), topic := ⟨t.toArray⟩, body := ⟨text.toArray⟩, mdur := decide (0 < code / 8 % 4) }
def willF (code : Nat) (will : Bool) (text topic : List UInt8) : Option (List BOp) :=
 if will = true then (messageF topic text).map fun t => [willOp t text code] else some []
def openOps (conn : Int) (nm : List UInt8) (clean : Bool) : List BOp :=
 [{ zOp with kind := 1, queue := queueL nm, durable := !clean, n := 64 }, { zOp with kind := 8, conn := conn, sub := 1, queue := queueL nm, n := 32, auto := true }]
def connActs (conn : Int) (nm : List UInt8) (clean : Bool) : List BAct :=
 if clean = true then [doAct 1 ⟨#[]⟩ [{ zOp with kind := 2, queue := queueL nm }], doAct 2 ⟨#[]⟩ ({ zOp with kind := 7, text := ⟨nm.toArray⟩ } :: openOps conn nm clean)] else [doAct 2 ⟨#[]⟩ (openOps conn nm clean)]
def connF (s : Mq) (conn : Int) (code : Nat) (name text topic : List UInt8) (will clean : Bool) (acts : List BAct) : Bool × Mq × List BAct :=
 if (M.isName (nameF name clean conn) && decide ((nameF name clean conn).length ≤ 14)) = true then
  match willF code will text topic with
  | none => (true, s, acts)
  | some ws => (false, { s with up := true, client := ⟨(nameF name clean conn).toArray⟩, clean := clean, will := ws }, acts ++ connActs conn (nameF name clean conn) clean)
 else (true, s, acts ++ [sayAct (enc 2 0 [0, 2])])
def refuseP : Pkt := ⟨2, 0, 0, 2, [], [], 0, false, [], false, [], []⟩
theorem refuse_calls (w : World) : Calls Tryz.prog 76 #[.agg (refuseP.pk (.slice none 0 0) (.slice none 0 0)).cells] w (EPost w (enc 2 0 [0, 2]) 0) :=
 encode_ok refuseP 2 0 ⟨rfl, rfl, by decide, by decide, by decide, by decide, by decide, by decide⟩ none none 0 0 [0, 2] w (fun W _ => rest_ack 0 2 0 (by decide) (by decide) refuseP _ _ W rfl rfl rfl rfl) (by decide)
  ⟨rfl, by decide, fun h => absurd h (by decide)⟩ (Nat.le_refl _) ⟨rfl, by decide, fun h => absurd h (by decide)⟩ (Nat.le_refl _) 4 (by rw [enc, lenEnc]; rfl)
theorem mqconn_calls (w0 w : World) (f o : Nat) (s : Mq) (conn : Int) (acts : List BAct) (vW vC vA : Value) (h : Fr w0 w f o s conn acts vW vC vA) (hl : acts.length ≤ 1048570) (kind flags id keep : Int) (code : Nat) (name text topic : List UInt8) (will clean : Bool) (vN vD : Value) (hG : WI w) (hco : code < 256) (hc0 : 0 ≤ conn) (hc1 : conn ≤ 9223372036854775807) (hnl : name.length ≤ 131072) (htl : topic.length ≤ 131072) :
  Calls Tryz.prog 124 #[.pointer (some ⟨f, 0, none⟩), .agg #[.int .i64 kind, .int .i64 flags, .int .i64 id, .int .i64 (code : Int), .string ⟨name.toArray⟩, .string ⟨text.toArray⟩, .int .i64 keep, .bool will, .string ⟨topic.toArray⟩, .bool clean, vN, vD]] w (FPost w0 w f o conn vA vC (connF s conn code name text topic will clean acts).1 (connF s conn code name text topic will clean acts).2.1 (connF s conn code name text topic will clean acts).2.2) := by
 have HF := Amk h
 have HL := Amk hl
 have HG := Amk hG
 have HBX := Amk (heap_alloc_new w (.cells (#[.int .i64 kind, .int .i64 flags, .int .i64 id, .int .i64 (code : Int), .string ⟨name.toArray⟩, .string ⟨text.toArray⟩, .int .i64 keep, .bool will, .string ⟨topic.toArray⟩, .bool clean, vN, vD]) 86))
 have HI : Aside0 (∀ W, WI W → Calls Tryz.prog 54 #[.int .i64 conn] W fun e w' => e = .returned (.string (itoaB conn)) ∧ Below W.heap.size W w') := ⟨fun W hG => itoa_calls conn (by omega) hc1 W hG⟩
 have hil := itoa_len conn hc0 hc1
 have hIS : 4 + (itoaB conn).size ≤ 9223372036854775807 := by simp only [itoaB, ByteArray.size, List.size_toArray]; omega
 clear h hl hG hc0 hc1
 obtain ⟨r1, r2, r3, hr⟩ : ∃ r1 r2 r3, connF s conn code name text topic will clean acts = (r1, r2, r3) := ⟨_, _, _, rfl⟩
 rw [hr]
 simp only []
 have HA := Amk (anon_add conn)
 obtain ⟨nm, hnm⟩ : ∃ nm, nm = nameF name clean conn := ⟨_, rfl⟩
 have HNM := Amk hnm
 have HNL : Aside0 (nm.length ≤ 131072) := ⟨by rw [hnm, nameF]; split; (simp only [anonL, List.length_append, List.length_cons, List.length_nil]; omega); exact hnl⟩
 have HRR : Aside0 ((if (M.isName nm && decide (nm.length ≤ 14)) = true then match willF code will text topic with | none => (true, s, acts) | some ws => (false, { s with up := true, client := ⟨nm.toArray⟩, clean := clean, will := ws }, acts ++ connActs conn nm clean) else (true, s, acts ++ [sayAct (enc 2 0 [0, 2])])) = (r1, r2, r3)) := ⟨by rw [← hr, connF, ← hnm]⟩
 clear hnm hr hnl hil
 obtain ⟨an, han⟩ : ∃ an, decide (name = [] ∧ clean = true) = an := ⟨_, rfl⟩
 have HAN := Amk han
 clear han
 go_enter Tryz.func124, Tryz.ntmps124
 go_upto_region 1 with (fail)
 go_cut [13] (fun s13 wx => s13 = .bool an ∧ Aside0 (wx = w.alloc (.cells (#[.int .i64 kind, .int .i64 flags, .int .i64 id, .int .i64 (code : Int), .string ⟨name.toArray⟩, .string ⟨text.toArray⟩, .int .i64 keep, .bool will, .string ⟨topic.toArray⟩, .bool clean, vN, vD]) 86)))
 case first =>
  rcases name with _ | ⟨x, name⟩
  ·
   go_wp2_with fail
   all_goals go_meet
   all_goals exact ⟨by rw [← HAN.out]; simp, ⟨rfl⟩⟩
  ·
   have hne : ¬ (x :: name) = [] := by simp
   go_wp2_with fail
   all_goals go_meet
   all_goals exact ⟨by rw [← HAN.out]; simp, ⟨rfl⟩⟩
 case rest =>
  obtain ⟨rfl, HWX⟩ := hcut
  rw [HWX.out]
  clear HWX
  go_upto_if 13 with (fail)
  go_cut [] (fun wx => Aside0 (wx.heap[w.heap.size]? = some (.cells (#[.int .i64 kind, .int .i64 flags, .int .i64 id, .int .i64 (code : Int), .string ⟨nm.toArray⟩, .string ⟨text.toArray⟩, .int .i64 keep, .bool will, .string ⟨topic.toArray⟩, .bool clean, vN, vD]) 86 (0, 0))) ∧ Aside0 (Below w.heap.size w wx))
  case first =>
   cases an
   ·
    have hn : nm = name := by rw [HNM.out, nameF, if_neg (by have := HAN.out; simpa using this)]
    go_wp2_with fail
    go_meet
    exact ⟨⟨by rw [hn]; exact HBX.out⟩, ⟨bal (Below.refl _ _) _⟩⟩
   ·
    have hn : nm = anonL conn := by rw [HNM.out, nameF, if_pos (by have := HAN.out; simpa using this)]
    have c1 := (HF.out.alloc (.cells (#[.int .i64 kind, .int .i64 flags, .int .i64 id, .int .i64 (code : Int), .string ⟨name.toArray⟩, .string ⟨text.toArray⟩, .int .i64 keep, .bool will, .string ⟨topic.toArray⟩, .bool clean, vN, vD]) 86)).c1
    go_wp2_with (go_at_call 54; refine Calls.mono (HI.out _ (HG.out.below (bal (Below.refl _ _) _))) ?_; rintro e w1 ⟨rfl, hb⟩; have HB1 : Aside0 (Below w.heap.size w w1) := ⟨bth (bal (Below.refl _ _) _) (by simp) hb⟩; have HBX1 := Amk ((hb.block w.heap.size (by simp)).trans HBX.out); have z4 := blk_frozen HBX1.out 4; have o4 := (bqc HBX1.out 4).trans (show _ = some (Value.string ⟨name.toArray⟩) from rfl); clear hb)
    go_meet
    exact ⟨⟨by rw [hn, ← HA.out]; simpa using blk_set HBX1.out 4 (.string (⟨#[97, 110, 111, 110]⟩ ++ itoaB conn))⟩, ⟨below_set HB1.out (Nat.le_refl _)⟩⟩
  case rest =>
   obtain ⟨HBX2, HB2⟩ := hcut
   clear HBX HI HA HNM HAN hIS
   have HG2 := Amk (HG.out.below HB2.out)
   have HF2 := Amk (HF.out.below HB2.out)
   have hst := size_l nm
   have cn := (bqc HBX2.out 4).trans (show _ = some (Value.string ⟨nm.toArray⟩) from rfl)
   obtain ⟨okn, hok⟩ : ∃ okn, (M.isName nm && decide (nm.length ≤ 14)) = okn := ⟨_, rfl⟩
   have HOK := Amk hok
   rw [hok] at HRR
   clear hok
   have HN : Aside0 (∀ W, WI W → Calls Tryz.prog 198 #[.string ⟨nm.toArray⟩] W fun e w' => e = .returned (.bool (M.isName nm)) ∧ Below W.heap.size W w') := ⟨fun W hG => U.name_calls ⟨nm.toArray⟩ W hG⟩
   go_upto_region 3 with (fail)
   go_cut [30] (fun s30 wx => s30 = .bool (!okn) ∧ Aside0 (wx.heap[w.heap.size]? = some (.cells (#[.int .i64 kind, .int .i64 flags, .int .i64 id, .int .i64 (code : Int), .string ⟨nm.toArray⟩, .string ⟨text.toArray⟩, .int .i64 keep, .bool will, .string ⟨topic.toArray⟩, .bool clean, vN, vD]) 86 (0, 0))) ∧ Aside0 (Below w.heap.size w wx))
   case first =>
    cases hi : M.isName nm with
    | false =>
     rw [hi] at HN HOK
     clear hi
     go_wp2_with (go_at_call 198; refine Calls.mono (HN.out _ HG2.out) ?_; rintro e w1 ⟨rfl, hb⟩; have HB3 := Amk (bth HB2.out HB2.out.size hb); have HBX3 := Amk ((hb.block w.heap.size (blt HBX2.out)).trans HBX2.out); clear hb)
     go_meet
     exact ⟨by rw [← HOK.out]; rfl, HBX3, HB3⟩
    | true =>
     rw [hi] at HN HOK
     clear hi
     by_cases hlen : nm.length ≤ 14
     ·
      have hd1 : decide ((14 : Int) < (nm.length : Int)) = false := decide_eq_false (by omega)
      have hd2 : decide (14 < nm.length) = false := decide_eq_false (by omega)
      have HO3 : Aside0 (okn = true) := ⟨by rw [← HOK.out]; simp [hlen]⟩
      clear hlen
      go_wp2_with (go_at_call 198; refine Calls.mono (HN.out _ HG2.out) ?_; rintro e w1 ⟨rfl, hb⟩; have HB3 := Amk (bth HB2.out HB2.out.size hb); have HBX3 := Amk ((hb.block w.heap.size (blt HBX2.out)).trans HBX2.out); have cn2 := (bqc HBX3.out 4).trans (show _ = some (Value.string ⟨nm.toArray⟩) from rfl); clear hb)
      go_meet
      exact ⟨by rw [HO3.out]; rfl, HBX3, HB3⟩
     ·
      have hd1 : decide ((14 : Int) < (nm.length : Int)) = true := decide_eq_true (by omega)
      have hd2 : decide (14 < nm.length) = true := decide_eq_true (by omega)
      have HO3 : Aside0 (okn = false) := ⟨by rw [← HOK.out]; simp [hlen]⟩
      clear hlen
      go_wp2_with (go_at_call 198; refine Calls.mono (HN.out _ HG2.out) ?_; rintro e w1 ⟨rfl, hb⟩; have HB3 := Amk (bth HB2.out HB2.out.size hb); have HBX3 := Amk ((hb.block w.heap.size (blt HBX2.out)).trans HBX2.out); have cn2 := (bqc HBX3.out 4).trans (show _ = some (Value.string ⟨nm.toArray⟩) from rfl); clear hb)
      go_meet
      exact ⟨by rw [HO3.out]; rfl, HBX3, HB3⟩
   case rest =>
    clear HBX2 HB2 HG2 HF2 cn HN HOK
    obtain ⟨rfl, HBX2, HB2⟩ := hcut
    have HG2 := Amk (HG.out.below HB2.out)
    have HF2 := Amk (HF.out.below HB2.out)
    have HW2 := Amk ((Went.refl w f o vA vC).below HB2.out)
    cases okn with
    | false =>
     have HE := Amk (fun W => refuse_calls W)
     have HRS : Aside0 ((r1, r2, r3) = (true, s, acts ++ [sayAct (enc 2 0 [0, 2])])) := ⟨by rw [← HRR.out]; rfl⟩
     clear HRR
     go_wp2_with (first | (go_at_call 75; refine Calls.mono (say_calls w0 _ f o s conn acts vW vC vA HF2.out (by have := HL.out; omega) refuseP _ _ _ _ (fun W _ => HE.out W)) ?_; rintro e w1 ⟨rfl, vW', vC', vA', hf, hk⟩; have HF3 := Amk hf; have HK3 := Amk hk; clear hf hk) | (go_at_call 70; refine Calls.mono (unlessQ_no _) ?_; rintro e2 w2 ⟨rfl, rfl⟩))
     obtain ⟨rfl, rfl, rfl⟩ : r1 = true ∧ r2 = s ∧ r3 = acts ++ [sayAct (enc 2 0 [0, 2])] := by have := HRS.out; simpa using this
     exact ⟨rfl, rfl, _, _, _, HF3.out, HW2.out.trans HK3.out⟩
    | true =>
     have HRT : Aside0 ((match willF code will text topic with | none => (true, s, acts) | some ws => (false, { s with up := true, client := ⟨nm.toArray⟩, clean := clean, will := ws }, acts ++ connActs conn nm clean)) = (r1, r2, r3)) := ⟨by rw [← HRR.out]; rfl⟩
     clear HRR
     have cw := (bqc HBX2.out 7).trans (show _ = some (Value.bool will) from rfl)
     obtain ⟨r, hr⟩ : ∃ r : Int, bits .and .i64 (code : Int) 32 = r := ⟨_, rfl⟩
     obtain ⟨m, hm⟩ : ∃ m : Int, bits .and .i64 ((code : Int) / 8) 3 = m := ⟨_, rfl⟩
     obtain ⟨kq, hkq⟩ : ∃ kq, (r != 0) = kq := ⟨_, rfl⟩
     obtain ⟨q, hq⟩ : ∃ q, q = code / 8 % 4 := ⟨_, rfl⟩
     have HKQ : Aside0 (kq = decide (code / 32 % 2 = 1)) := ⟨by rw [← hkq, ← hr, (code_bits code hco).1]⟩
     have HMQ : Aside0 (m = (q : Int)) := ⟨by rw [← hm, (code_bits code hco).2, hq]⟩
     have HQQ := Amk hq
     clear hq hco
     have HM : Aside0 (∀ W, WI W → Calls Tryz.prog 199 #[.string ⟨topic.toArray⟩, .string ⟨text.toArray⟩, .int .i64 m] W (MPost W (messageF topic text) text q)) := ⟨fun W hG => HMQ.out ▸ message_calls topic text q htl W hG⟩
     clear htl
     go_upto_if 36 with (fail)
     go_cut [4] (fun s4 wx => ∃ ws A n c, s4 = .slice A n c ∧ Aside0 (kOp.R 64 wx w.heap.size (fun _ => True) (.slice A n c) ws) ∧ Aside0 (wx.heap[w.heap.size]? = some (.cells (#[.int .i64 kind, .int .i64 flags, .int .i64 id, .int .i64 (code : Int), .string ⟨nm.toArray⟩, .string ⟨text.toArray⟩, .int .i64 keep, .bool will, .string ⟨topic.toArray⟩, .bool clean, vN, vD]) 86 (0, 0))) ∧ Aside0 (Below w.heap.size w wx) ∧ Aside0 (willF code will text topic = some ws))
     case first =>
      cases will with
      | false =>
       go_wp2_with fail
       go_meet
       exact ⟨[], _, _, _, rfl, ⟨Kd.R_nil _ _ _ _ _⟩, HBX2, HB2, ⟨rfl⟩⟩
      | true =>
       have hbox : Aside0 (∀ j, wc.drew.cell? ⟨w.heap.size, j, none⟩ = (#[.int .i64 kind, .int .i64 flags, .int .i64 id, .int .i64 (code : Int), .string ⟨nm.toArray⟩, .string ⟨text.toArray⟩, .int .i64 keep, .bool true, .string ⟨topic.toArray⟩, .bool clean, vN, vD] : Array Value)[j]?) := ⟨fun j => bqc HBX2.out j⟩
       have HGD := Amk (HG2.out.below (bdr (Below.refl wc.heap.size wc)))
       have HBD := Amk (bdr HB2.out)
       cases hmf : messageF topic text with
       | none =>
        rw [hmf] at HM
        have HRS : Aside0 ((r1, r2, r3) = (true, s, acts)) := ⟨by rw [← HRT.out, willF, if_pos rfl, hmf]; rfl⟩
        clear HRT hmf
        go_upto_region 8 with (fail)
        refine wp_region_held_drew (S := (fun W => ∀ j, W.cell? ⟨w.heap.size, j, none⟩ = (#[.int .i64 kind, .int .i64 flags, .int .i64 id, .int .i64 (code : Int), .string ⟨nm.toArray⟩, .string ⟨text.toArray⟩, .int .i64 keep, .bool true, .string ⟨topic.toArray⟩, .bool clean, vN, vD] : Array Value)[j]?)) (by kernel_rfl) hbox.out (fun hHeld => ?_)
        refine wpAnyH_take (i := 0) (v := ?_) rfl (by kernel_rfl) (by kernel_rfl) (by kernel_rfl) (fun _ _ _ h => h) (Or.inl ⟨by rfl, ?_⟩) hHeld ?_; rotate_left; focus (intro w_ hSw; (try dsimp only at hSw); go_simp; (try simp only [hSw]); (try rfl)); rotate_left; try simp only [Act.put, Lsa, Lsz, Lss]
        refine wpAnyH_take (i := 1) (v := ?_) rfl (by kernel_rfl) (by kernel_rfl) (by kernel_rfl) (fun _ _ _ h => h) (Or.inl ⟨by rfl, ?_⟩) hHeld ?_; rotate_left; focus (intro w_ hSw; (try dsimp only at hSw); go_simp; (try simp only [hSw]); (try rfl)); rotate_left; try simp only [Act.put, Lsa, Lsz, Lss]
        refine wpAnyH_take (i := 2) (v := ?_) rfl (by kernel_rfl) (by kernel_rfl) (by kernel_rfl) (fun _ _ _ h => h) (Or.inl ⟨by rfl, ?_⟩) hHeld ?_; rotate_left; focus (intro w_ hSw; (try dsimp only at hSw); go_simp; (try simp only [hSw]); (try rfl)); rotate_left; try simp only [Act.put, Lsa, Lsz, Lss]
        refine wpAnyH_take (i := 3) (v := ?_) rfl (by kernel_rfl) (by kernel_rfl) (by kernel_rfl) (fun _ _ _ h => h) (Or.inl ⟨by rfl, ?_⟩) hHeld ?_; rotate_left; focus (intro w_ hSw; (try dsimp only at hSw); go_simp; (try simp only [hSw]); (try rfl)); rotate_left; try simp only [Act.put, Lsa, Lsz, Lss]
        refine wpAnyH_take (i := 4) (v := ?_) rfl (by kernel_rfl) (by kernel_rfl) (by kernel_rfl) (fun _ _ _ h => h) (Or.inl ⟨by rfl, ?_⟩) hHeld ?_; rotate_left; focus (intro w_ hSw; (try dsimp only at hSw); go_simp; (try simp only [hSw]); (try rfl)); rotate_left; try simp only [Act.put, Lsa, Lsz, Lss]
        refine wpAnyH_take (i := 5) (v := ?_) rfl (by kernel_rfl) (by kernel_rfl) (by kernel_rfl) (fun _ _ _ h => h) (Or.inl ⟨by rfl, ?_⟩) hHeld ?_; rotate_left; focus (intro w_ hSw; (try dsimp only at hSw); go_simp; (try simp only [hSw]); (try rfl)); rotate_left; try simp only [Act.put, Lsa, Lsz, Lss]
        refine wpAnyH_take (i := 6) (v := ?_) rfl (by kernel_rfl) (by kernel_rfl) (by kernel_rfl) (fun _ _ _ h => h) (Or.inl ⟨by rfl, ?_⟩) hHeld ?_; rotate_left; focus (intro w_ hSw; (try dsimp only at hSw); go_simp; (try simp only [hSw]); (try rfl)); rotate_left; try simp only [Act.put, Lsa, Lsz, Lss]
        refine wpAnyH_take (i := 7) (v := ?_) rfl (by kernel_rfl) (by kernel_rfl) (by kernel_rfl) (fun _ _ _ h => h) (Or.inl ⟨by rfl, ?_⟩) hHeld ?_; rotate_left; focus (intro w_ hSw; (try dsimp only at hSw); go_simp; (try simp only [hSw]); (try rfl)); rotate_left; try simp only [Act.put, Lsa, Lsz, Lss]
        refine wpAnyH_take (i := 8) (v := ?_) rfl (by kernel_rfl) (by kernel_rfl) (by kernel_rfl) (fun _ _ _ h => h) (Or.inl ⟨by rfl, ?_⟩) hHeld ?_; rotate_left; focus (intro w_ hSw; (try dsimp only at hSw); go_simp; (try simp only [hSw]); (try rfl)); rotate_left; try simp only [Act.put, Lsa, Lsz, Lss]
        refine wpAnyH_take (i := 9) (v := ?_) rfl (by kernel_rfl) (by kernel_rfl) (by kernel_rfl) (fun _ _ _ h => h) (Or.inl ⟨by rfl, ?_⟩) hHeld ?_; rotate_left; focus (intro w_ hSw; (try dsimp only at hSw); go_simp; (try simp only [hSw]); (try rfl)); rotate_left; try simp only [Act.put, Lsa, Lsz, Lss]
        refine wpAnyH_take (i := 10) (v := ?_) rfl (by kernel_rfl) (by kernel_rfl) (by kernel_rfl) (fun _ _ _ h => h) (Or.inl ⟨by rfl, ?_⟩) hHeld ?_; rotate_left; focus (intro w_ hSw; (try dsimp only at hSw); go_simp; (try simp only [hSw]); (try rfl)); rotate_left; try simp only [Act.put, Lsa, Lsz, Lss]
        refine wpAnyH_take (i := 11) (v := ?_) rfl (by kernel_rfl) (by kernel_rfl) (by kernel_rfl) (fun _ _ _ h => h) (Or.inl ⟨by rfl, ?_⟩) hHeld ?_; rotate_left; focus (intro w_ hSw; (try dsimp only at hSw); go_simp; (try simp only [hSw]); (try rfl)); rotate_left; try simp only [Act.put, Lsa, Lsz, Lss]
        refine wpAnyH_ready (rs := [12]) (by kernel_rfl) (by simp) ?_
        refine AllReadyH.cons rfl (fun K hK => ?_) AllReadyH.nil
        go_simp
        go_wp2_with (go_at_call 199; refine Calls.mono (HM.out _ HGD.out) ?_; rintro e wq ⟨rfl, hb⟩; have HF3 := Amk (HF2.out.drew.below hb); have HK3 := Amk ((HW2.out.below (bdr (Below.refl wc.heap.size wc))).below hb); obtain ⟨rfl, rfl, rfl⟩ : r1 = true ∧ r2 = s ∧ r3 = acts := (by have := HRS.out; simpa using this); exact ⟨rfl, rfl, _, _, _, HF3.out, HK3.out⟩)
       | some t =>
        rw [hmf] at HM
        have HWF : Aside0 (willF code true text topic = some [willOp t text code]) := ⟨by rw [willF, if_pos rfl, hmf]; rfl⟩
        clear hmf HRT
        obtain ⟨mq, hmq⟩ : ∃ mq, decide (0 < q) = mq := ⟨_, rfl⟩
        have HM2 : Aside0 (∀ W, WI W → Calls Tryz.prog 199 #[.string ⟨topic.toArray⟩, .string ⟨text.toArray⟩, .int .i64 m] W fun e w' => e = .returned (.agg #[.string ⟨t.toArray⟩, .string ⟨text.toArray⟩, .slice none 0 0, .bool mq, .int .i64 0]) ∧ Below W.heap.size W w') := ⟨fun W hG => (HM.out W hG).mono (fun e w' hp => hmq ▸ hp)⟩
        have HPO : Aside0 (willOp t text code = { zOp with kind := 5, keep := kq, topic := ⟨t.toArray⟩, body := ⟨text.toArray⟩, mdur := mq }) := ⟨by rw [willOp, HKQ.out, ← hmq, HQQ.out]⟩
        clear HM hmq
        go_upto_region 8 with (fail)
        go_region_held3 (fun W => ∀ j, W.cell? ⟨w.heap.size, j, none⟩ = (#[.int .i64 kind, .int .i64 flags, .int .i64 id, .int .i64 (code : Int), .string ⟨nm.toArray⟩, .string ⟨text.toArray⟩, .int .i64 keep, .bool true, .string ⟨topic.toArray⟩, .bool clean, vN, vD] : Array Value)[j]?) (first | exact hbox.out | with_reducible exact fun j => bqc HBX3.out j | exact fun j => bqc (bka HBX3.out _) j) ((go_at_call 199; refine Calls.mono (HM2.out _ HGD.out) ?_; rintro e wq ⟨rfl, hb⟩; have HBX3 := Amk ((hb.block w.heap.size (blt (w := wc.drew) HBX2.out)).trans HBX2.out); have HB3 := Amk (bth HBD.out HBD.out.size hb); clear hb))
        go_wp2_with fail
        go_meet
        exact ⟨[willOp t text code], _, _, _, rfl, ⟨by rw [HPO.out]; exact R_one _ _ _ HB3.out.size⟩, ⟨bka HBX3.out _⟩, ⟨bal HB3.out _⟩, HWF⟩
     case rest =>
      clear HBX2 HB2 HG2 HF2 HW2 cw HM HKQ HMQ HQQ hr hm hkq
      obtain ⟨ws, A4, n4, c4, rfl, HR4, HBX2, HB2, HWF⟩ := hcut
      have HRS : Aside0 ((r1, r2, r3) = (false, { s with up := true, client := ⟨nm.toArray⟩, clean := clean, will := ws }, acts ++ connActs conn nm clean)) := ⟨by rw [← HRT.out, HWF.out]⟩
      clear HRT HWF
      have HF2 := Amk (HF.out.below HB2.out)
      have HW2 := Amk ((Went.refl w f o vA vC).below HB2.out)
      have hfo : f ≠ o := HF.out.fo
      have hxo : w.heap.size ≠ o := Nat.ne_of_gt (blt HF.out.own.blk)
      have z1 := HF2.out.zo 1
      have z3 := HF2.out.zo 3
      have z4 := HF2.out.zo 4
      have z5 := HF2.out.zo 5
      have o1 := (HF2.out.cell 1).trans (show _ = some (Value.bool s.up) from rfl)
      have o3 := (HF2.out.cell 3).trans (show _ = some (Value.string s.client) from rfl)
      have o4 := (HF2.out.cell 4).trans (show _ = some (Value.bool s.clean) from rfl)
      have o5 := (HF2.out.cell 5).trans (show _ = some vW from rfl)
      go_upto_region 9 with (fail)
      go_region_held3 (fun W => W.cell? ⟨f, 0, none⟩ = some (.pointer (some ⟨o, 0, none⟩)) ∧ W.cell? ⟨w.heap.size, 4, none⟩ = some (.string ⟨nm.toArray⟩) ∧ W.cell? ⟨w.heap.size, 9, none⟩ = some (.bool clean)) (refine cells3 (cf := #[.pointer (some ⟨o, 0, none⟩), .int .i64 conn, vA]) (cx := #[.int .i64 kind, .int .i64 flags, .int .i64 id, .int .i64 (code : Int), .string ⟨nm.toArray⟩, .string ⟨text.toArray⟩, .int .i64 keep, .bool will, .string ⟨topic.toArray⟩, .bool clean, vN, vD]) ?_ ?_ rfl rfl rfl <;> (repeat refine blk_far ?_ (by assumption) _) <;> first | exact HF2.out.fb | exact HBX2.out) (fail)
      have F1 := Amk (HF2.out.setO (s' := { s with up := true }) 1 (.bool true) rfl HF2.out.own.will HF2.out.own.codes)
      have F2 := Amk (F1.out.setO (s' := { s with up := true, client := ⟨nm.toArray⟩ }) 3 (.string ⟨nm.toArray⟩) rfl F1.out.own.will F1.out.own.codes)
      have F3 := Amk (F2.out.setO (s' := { s with up := true, client := ⟨nm.toArray⟩, clean := clean }) 4 (.bool clean) rfl F2.out.own.will F2.out.own.codes)
      have R4 := Amk (Kd.R_set (Kd.R_set (Kd.R_set (Kd.R_lower HR4.out HF.out.sz) HF2.out.own.blk (by decide) 1 (.bool true)) F1.out.own.blk (by decide) 3 (.string ⟨nm.toArray⟩)) F2.out.own.blk (by decide) 4 (.bool clean))
      have HF5 := Amk (F3.out.setO (s' := { s with up := true, client := ⟨nm.toArray⟩, clean := clean, will := ws }) 5 (.slice A4 n4 c4) rfl R4.out F3.out.own.codes).drew
      have HW5 := Amk ((((HW2.out.trans (HF2.out.seto 1 (.bool true))).trans (F1.out.seto 3 (.string ⟨nm.toArray⟩))).trans (F2.out.seto 4 (.bool clean))).trans (F3.out.seto 5 (.slice A4 n4 c4))).drew
      have HBX5 := Amk (blk_drew (blk_far (blk_far (blk_far (blk_far HBX2.out hxo (p := ⟨o, 1, none⟩) (.bool true)) hxo (p := ⟨o, 3, none⟩) (.string ⟨nm.toArray⟩)) hxo (p := ⟨o, 4, none⟩) (.bool clean)) hxo (p := ⟨o, 5, none⟩) (.slice A4 n4 c4)))
      clear F1 F2 F3 R4 z1 z3 z4 z5 o1 o3 o4 o5 HF2 HW2 HBX2 HR4 HB2
      generalize ((((wc.setCell ⟨o, 1, none⟩ (.bool true)).setCell ⟨o, 3, none⟩ (.string ⟨nm.toArray⟩)).setCell ⟨o, 4, none⟩ (.bool clean)).setCell ⟨o, 5, none⟩ (.slice A4 n4 c4)).drew = w5 at *
      have HNL := HNL.out
      have HQ : Aside0 (∀ W, Calls Tryz.prog 85 #[.string ⟨nm.toArray⟩] W fun e w' => e = .returned (.string (queueL nm)) ∧ Below W.heap.size W w') := ⟨fun W => (QT.mqtt_queue.calls ⟨nm.toArray⟩ _ W (by unfold QT.mqtt_queue.f; rw [if_pos (by rw [hst]; omega)])).mono (by rintro e w' ⟨rfl, hd⟩; exact ⟨rfl, hd.below⟩)⟩
      have cn := (bqc HBX5.out 4).trans (show _ = some (Value.string ⟨nm.toArray⟩) from rfl)
      go_upto_region 11 with (go_at_call 85; refine Calls.mono (HQ.out _) ?_; rintro e w6 ⟨rfl, hb⟩; have HBX6 := Amk ((hb.block w.heap.size (blt HBX5.out)).trans HBX5.out); have HF6 := Amk (HF5.out.below hb); have HW6 := Amk (HW5.out.below hb); clear hb)
      have ck := (bqc HBX6.out 9).trans (show _ = some (Value.bool clean) from rfl)
      have cc := HF6.out.c1
      go_region_held3 (fun W => W.cell? ⟨f, 1, none⟩ = some (.int .i64 conn) ∧ W.cell? ⟨w.heap.size, 9, none⟩ = some (.bool clean)) (first | exact ⟨cc, ck⟩ | exact ⟨(HF6.out.drew.alloc _).c1, (bqc (bka (blk_drew HBX6.out) _) 9).trans rfl⟩ | exact ⟨(HF6.out.alloc _).c1, (bqc (bka HBX6.out _) 9).trans rfl⟩) (fail)
      have HF7 := Amk (HF6.out.alloc (.cells #[.int .i64 1, .int .i64 0, .int .i64 0, .int .i64 64, .string (queueL nm), .string ⟨#[]⟩, .bool !clean, .bool false, .bool false, .string ⟨#[]⟩, .string ⟨#[]⟩, .slice none 0 0, .bool false, .int .i64 0, .int .i64 8, .int .i64 conn, .int .i64 1, .int .i64 32, .string (queueL nm), .string ⟨#[]⟩, .bool false, .bool true, .bool false, .string ⟨#[]⟩, .string ⟨#[]⟩, .slice none 0 0, .bool false, .int .i64 0] 64)).drew
      have HW7 := Amk (HW6.out.below (bal (Below.refl w6.heap.size w6) (.cells #[.int .i64 1, .int .i64 0, .int .i64 0, .int .i64 64, .string (queueL nm), .string ⟨#[]⟩, .bool !clean, .bool false, .bool false, .string ⟨#[]⟩, .string ⟨#[]⟩, .slice none 0 0, .bool false, .int .i64 0, .int .i64 8, .int .i64 conn, .int .i64 1, .int .i64 32, .string (queueL nm), .string ⟨#[]⟩, .bool false, .bool true, .bool false, .string ⟨#[]⟩, .string ⟨#[]⟩, .slice none 0 0, .bool false, .int .i64 0] 64))).drew
      have HR7 : Aside0 (kOp.R 64 (w6.alloc (.cells #[.int .i64 1, .int .i64 0, .int .i64 0, .int .i64 64, .string (queueL nm), .string ⟨#[]⟩, .bool !clean, .bool false, .bool false, .string ⟨#[]⟩, .string ⟨#[]⟩, .slice none 0 0, .bool false, .int .i64 0, .int .i64 8, .int .i64 conn, .int .i64 1, .int .i64 32, .string (queueL nm), .string ⟨#[]⟩, .bool false, .bool true, .bool false, .string ⟨#[]⟩, .string ⟨#[]⟩, .slice none 0 0, .bool false, .int .i64 0] 64)).drew w6.heap.size (fun _ => True) (.slice (some ⟨w6.heap.size, 0, none⟩) 2 2) (openOps conn nm clean)) := ⟨Kd.R_below (R_two w6 w6.heap.size { zOp with kind := 1, queue := queueL nm, durable := !clean, n := 64 } { zOp with kind := 8, conn := conn, sub := 1, queue := queueL nm, n := 32, auto := true } (Nat.le_refl _)) (bdr (Below.refl _ _))⟩
      have HBX7 := Amk (blk_drew (bka HBX6.out (.cells #[.int .i64 1, .int .i64 0, .int .i64 0, .int .i64 64, .string (queueL nm), .string ⟨#[]⟩, .bool !clean, .bool false, .bool false, .string ⟨#[]⟩, .string ⟨#[]⟩, .slice none 0 0, .bool false, .int .i64 0, .int .i64 8, .int .i64 conn, .int .i64 1, .int .i64 32, .string (queueL nm), .string ⟨#[]⟩, .bool false, .bool true, .bool false, .string ⟨#[]⟩, .string ⟨#[]⟩, .slice none 0 0, .bool false, .int .i64 0] 64)))
      have hz7 : w6.heap.size ≤ (w6.alloc (.cells #[.int .i64 1, .int .i64 0, .int .i64 0, .int .i64 64, .string (queueL nm), .string ⟨#[]⟩, .bool !clean, .bool false, .bool false, .string ⟨#[]⟩, .string ⟨#[]⟩, .slice none 0 0, .bool false, .int .i64 0, .int .i64 8, .int .i64 conn, .int .i64 1, .int .i64 32, .string (queueL nm), .string ⟨#[]⟩, .bool false, .bool true, .bool false, .string ⟨#[]⟩, .string ⟨#[]⟩, .slice none 0 0, .bool false, .int .i64 0] 64)).drew.heap.size := by simp
      generalize (w6.alloc (.cells #[.int .i64 1, .int .i64 0, .int .i64 0, .int .i64 64, .string (queueL nm), .string ⟨#[]⟩, .bool !clean, .bool false, .bool false, .string ⟨#[]⟩, .string ⟨#[]⟩, .slice none 0 0, .bool false, .int .i64 0, .int .i64 8, .int .i64 conn, .int .i64 1, .int .i64 32, .string (queueL nm), .string ⟨#[]⟩, .bool false, .bool true, .bool false, .string ⟨#[]⟩, .string ⟨#[]⟩, .slice none 0 0, .bool false, .int .i64 0] 64)).drew = w7 at *
      clear HF5 HW5 HBX5 cn ck cc
      have ck := (bqc HBX7.out 9).trans (show _ = some (Value.bool clean) from rfl)
      cases clean with
      | false =>
       have HC7 := Amk (Kd.R_reads' HR7.out).2.2
       go_wp2_with (go_at_call 126; refine Calls.mono (do_calls w0 _ f o _ conn acts _ vC vA HF7.out (by have := HL.out; omega) 2 ⟨#[]⟩ _ 2 (openOps conn nm false) HC7.out (by simp [openOps])) ?_; rintro e w8 ⟨rfl, vW', vC', vA', hf, hk⟩; have HF8 := Amk hf; have HK8 := Amk hk; clear hf hk)
       go_end0
       obtain ⟨e1, e2, e3⟩ : r1 = false ∧ r2 = { s with up := true, client := ⟨nm.toArray⟩, clean := false, will := ws } ∧ r3 = acts ++ connActs conn nm false := by have := HRS.out; simpa using this
       rw [e1, e2, e3]
       exact ⟨rfl, _, _, _, HF8.out, HW7.out.trans HK8.out⟩
      | true =>
       go_upto_region 14 with (go_at_call 126; refine Calls.mono (do_calls w0 _ f o _ conn acts _ vC vA (HF7.out.alloc _) (by have := HL.out; omega) 1 ⟨#[]⟩ _ 1 [({ zOp with kind := 2, queue := queueL nm } : BOp)] (ops_one (x := ({ zOp with kind := 2, queue := queueL nm } : BOp)) (heap_alloc_new _ _)) (one_le _)) ?_; rintro e w8 ⟨rfl, vW', vC', vA', hf, hk⟩; have HF8 := Amk hf; have HK8 := Amk hk; clear hf hk)
       have HBX8 := Amk (blk_kept (bka HBX7.out _) HK8.out.kept (HF.out.far (Nat.le_refl _)))
       have HR8 := Amk (R_kept (Kd.R_below HR7.out (bal (Below.refl _ _) _)) HK8.out.kept (fun k hk => HF6.out.far hk))
       have HC8 := Amk (Kd.R_reads' HR8.out).2.2
       have cn := (bqc HBX8.out 4).trans (show _ = some (Value.string ⟨nm.toArray⟩) from rfl)
       go_upto_region 15 with ((with_reducible refine gate_builtin (b := .append) (xs := #[.tmp 106, .tmp 107]) rfl ?_); at_builtin; refine Kd.R_append_rows kOp (Rr := kOp.K w8) (w0 := w8) w8.heap.size rfl (.tmp 106) (.tmp 107) 42 64 _ 144 rfl Tryz.underlying42 info64 rfl (by decide) (by decide) (.slice (some ⟨w8.heap.size, 0, none⟩) 1 1) [({ zOp with kind := 7, text := ⟨nm.toArray⟩ } : BOp)] (openOps conn nm true) (some ⟨w6.heap.size, 0, none⟩) 2 2 (fun _ => True) (fun _ => False) rfl rfl (R_one w8 w8.heap.size ({ zOp with kind := 7, text := ⟨nm.toArray⟩ } : BOp) (Nat.le_refl _)) (ReadsRow.imp_ HC8.out (bal (Below.refl _ _) _) (fun _ _ h => h)) (fun _ _ h => h) (fun _ hk => hk.elim) (fun _ _ => trivial) (bal (Below.refl _ _) _) (by simp) (by simp [openOps]) ?_; intro v9 w9 hr hb hg hat; have HR9 := Amk hr; have HB9 := Amk hb; clear hr hb hg hat; obtain ⟨A9, n9, c9, rfl, HN9⟩ := R_parts HR9.out)
       obtain ⟨hn9⟩ := HN9
       subst hn9
       have HC9 := Amk (Kd.R_reads' HR9.out).2.2
       have HF9 := Amk (HF8.out.below HB9.out)
       have HW9 := Amk (((HW7.out.below (bal (Below.refl _ _) _)).trans HK8.out).below HB9.out)
       go_wp2_with (go_at_call 126; refine Calls.mono (do_calls w0 _ f o _ conn _ _ _ _ HF9.out (by have := HL.out; simp only [List.length_append, List.length_singleton]; omega) 2 ⟨#[]⟩ _ c9 ([({ zOp with kind := 7, text := ⟨nm.toArray⟩ } : BOp)] ++ openOps conn nm true) HC9.out (by simp [openOps])) ?_; rintro e wa ⟨rfl, vW2, vC2, vA2, hf, hk⟩; have HFA := Amk hf; have HKA := Amk hk; clear hf hk)
       go_end0
       obtain ⟨e1, e2, e3⟩ : r1 = false ∧ r2 = { s with up := true, client := ⟨nm.toArray⟩, clean := true, will := ws } ∧ r3 = acts ++ connActs conn nm true := by have := HRS.out; simpa using this
       rw [e1, e2, e3, show acts ++ connActs conn nm true = (acts ++ [doAct 1 ⟨#[]⟩ [{ zOp with kind := 2, queue := queueL nm }]]) ++ [doAct 2 ⟨#[]⟩ ([{ zOp with kind := 7, text := ⟨nm.toArray⟩ }] ++ openOps conn nm true)] from by simp [connActs]]
       exact ⟨rfl, _, _, _, HFA.out, HW9.out.trans HKA.out⟩
theorem hear_conn (w0 w : World) (f o : Nat) (s : Mq) (conn : Int) (acts : List BAct) (vW vC vA : Value) (h : Fr w0 w f o s conn acts vW vC vA) (hl : acts.length ≤ 1048570) (flags id keep : Int) (code : Nat) (name text topic : List UInt8) (will clean : Bool) (vN vD : Value) (hG : WI w0) (hco : code < 256) (hc0 : 0 ≤ conn) (hc1 : conn ≤ 9223372036854775807) (hnl : name.length ≤ 131072) (htl : topic.length ≤ 131072) :
  Calls Tryz.prog 71 #[.pointer (some ⟨f, 0, none⟩), .agg #[.int .i64 1, .int .i64 flags, .int .i64 id, .int .i64 (code : Int), .string ⟨name.toArray⟩, .string ⟨text.toArray⟩, .int .i64 keep, .bool will, .string ⟨topic.toArray⟩, .bool clean, vN, vD]] w (FPost w0 w f o conn vA vC (connF s conn code name text topic will clean acts).1 (connF s conn code name text topic will clean acts).2.1 (connF s conn code name text topic will clean acts).2.2) := by
 have HF := Amk h
 have HBX := Amk (heap_alloc_new w (.cells (#[.int .i64 1, .int .i64 flags, .int .i64 id, .int .i64 (code : Int), .string ⟨name.toArray⟩, .string ⟨text.toArray⟩, .int .i64 keep, .bool will, .string ⟨topic.toArray⟩, .bool clean, vN, vD]) 86))
 obtain ⟨r1, r2, r3, hr⟩ : ∃ r1 r2 r3, connF s conn code name text topic will clean acts = (r1, r2, r3) := ⟨_, _, _, rfl⟩
 have HC : Aside0 (Calls Tryz.prog 124 #[.pointer (some ⟨f, 0, none⟩), .agg #[.int .i64 1, .int .i64 flags, .int .i64 id, .int .i64 (code : Int), .string ⟨name.toArray⟩, .string ⟨text.toArray⟩, .int .i64 keep, .bool will, .string ⟨topic.toArray⟩, .bool clean, vN, vD]] (w.alloc (.cells (#[.int .i64 1, .int .i64 flags, .int .i64 id, .int .i64 (code : Int), .string ⟨name.toArray⟩, .string ⟨text.toArray⟩, .int .i64 keep, .bool will, .string ⟨topic.toArray⟩, .bool clean, vN, vD]) 86)) (FPost w0 (w.alloc (.cells (#[.int .i64 1, .int .i64 flags, .int .i64 id, .int .i64 (code : Int), .string ⟨name.toArray⟩, .string ⟨text.toArray⟩, .int .i64 keep, .bool will, .string ⟨topic.toArray⟩, .bool clean, vN, vD]) 86)) f o conn vA vC r1 r2 r3)) := ⟨by have := mqconn_calls w0 (w.alloc (.cells (#[.int .i64 1, .int .i64 flags, .int .i64 id, .int .i64 (code : Int), .string ⟨name.toArray⟩, .string ⟨text.toArray⟩, .int .i64 keep, .bool will, .string ⟨topic.toArray⟩, .bool clean, vN, vD]) 86)) f o s conn acts vW vC vA (h.alloc _) hl 1 flags id keep code name text topic will clean vN vD ((hG.below h.bel).below (bal (Below.refl _ _) _)) hco hc0 hc1 hnl htl; rw [hr] at this; exact this⟩
 rw [hr]
 simp only []
 clear hr h hl
 cases r1 with
 | false =>
  go_enter Tryz.func71, Tryz.ntmps71
  go_wp2_with (first | ((with_reducible refine gate_dst (N := 19) rfl ?_); refine wpList_load_row rfl 86 (.tmp 3) rfl w.heap.size rfl 86 (#[.int .i64 1, .int .i64 flags, .int .i64 id, .int .i64 (code : Int), .string ⟨name.toArray⟩, .string ⟨text.toArray⟩, .int .i64 keep, .bool will, .string ⟨topic.toArray⟩, .bool clean, vN, vD]) (0, 0) _ HBX.out Tryz.underlying86 rfl (by kernel_rfl) ?_) | (go_at_call 124; refine Calls.mono HC.out ?_; rintro e w1 ⟨rfl, vW', vC', vA', hf, hk⟩; have HF1 := Amk hf; have HK1 := Amk hk; clear hf hk))
  go_end0
  exact ⟨rfl, _, _, _, HF1.out, Went.after (bal (Below.refl _ _) _) HK1.out⟩
 | true =>
  go_enter Tryz.func71, Tryz.ntmps71
  go_wp2_with (first | ((with_reducible refine gate_dst (N := 19) rfl ?_); refine wpList_load_row rfl 86 (.tmp 3) rfl w.heap.size rfl 86 (#[.int .i64 1, .int .i64 flags, .int .i64 id, .int .i64 (code : Int), .string ⟨name.toArray⟩, .string ⟨text.toArray⟩, .int .i64 keep, .bool will, .string ⟨topic.toArray⟩, .bool clean, vN, vD]) (0, 0) _ HBX.out Tryz.underlying86 rfl (by kernel_rfl) ?_) | (go_at_call 124; refine Calls.mono HC.out ?_; rintro e w1 ⟨rfl, vW', vC', vA', hf, hk⟩; exact ⟨rfl, rfl, _, _, _, hf, Went.after (bal (Below.refl _ _) _) hk⟩))
def pubR (s : Mq) (topic text : List UInt8) (fl : Nat) (id : Int) (acts : List BAct) : Bool × Mq × List BAct := ((publishF s topic text fl id).isNone, s, optActs acts (publishF s topic text fl id))
theorem hear_pub (w0 w : World) (f o : Nat) (s : Mq) (conn : Int) (acts : List BAct) (vW vC vA : Value) (h : Fr w0 w f o s conn acts vW vC vA) (hl : acts.length ≤ 1048570) (id code keep : Int) (fl : Nat) (name text topic : List UInt8) (will clean : Bool) (vN vD : Value) (hG : WI w0) (hfl : fl < 16) (hid0 : 0 ≤ id) (hid1 : id ≤ 65535) (htl : topic.length ≤ 131072) :
  Calls Tryz.prog 71 #[.pointer (some ⟨f, 0, none⟩), .agg #[.int .i64 3, .int .i64 (fl : Int), .int .i64 id, .int .i64 code, .string ⟨name.toArray⟩, .string ⟨text.toArray⟩, .int .i64 keep, .bool will, .string ⟨topic.toArray⟩, .bool clean, vN, vD]] w (FPost w0 w f o conn vA vC (pubR s topic text fl id acts).1 (pubR s topic text fl id acts).2.1 (pubR s topic text fl id acts).2.2) := by
 have HF := Amk h
 have HBX := Amk (heap_alloc_new w (.cells (#[.int .i64 3, .int .i64 (fl : Int), .int .i64 id, .int .i64 code, .string ⟨name.toArray⟩, .string ⟨text.toArray⟩, .int .i64 keep, .bool will, .string ⟨topic.toArray⟩, .bool clean, vN, vD]) 86))
 obtain ⟨r1, r2, r3, hr⟩ : ∃ r1 r2 r3, pubR s topic text fl id acts = (r1, r2, r3) := ⟨_, _, _, rfl⟩
 have HC : Aside0 (Calls Tryz.prog 125 #[.pointer (some ⟨f, 0, none⟩), .agg #[.int .i64 3, .int .i64 (fl : Int), .int .i64 id, .int .i64 code, .string ⟨name.toArray⟩, .string ⟨text.toArray⟩, .int .i64 keep, .bool will, .string ⟨topic.toArray⟩, .bool clean, vN, vD]] (w.alloc (.cells (#[.int .i64 3, .int .i64 (fl : Int), .int .i64 id, .int .i64 code, .string ⟨name.toArray⟩, .string ⟨text.toArray⟩, .int .i64 keep, .bool will, .string ⟨topic.toArray⟩, .bool clean, vN, vD]) 86)) (FPost w0 (w.alloc (.cells (#[.int .i64 3, .int .i64 (fl : Int), .int .i64 id, .int .i64 code, .string ⟨name.toArray⟩, .string ⟨text.toArray⟩, .int .i64 keep, .bool will, .string ⟨topic.toArray⟩, .bool clean, vN, vD]) 86)) f o conn vA vC r1 r2 r3)) := ⟨by have := publish_calls w0 (w.alloc (.cells (#[.int .i64 3, .int .i64 (fl : Int), .int .i64 id, .int .i64 code, .string ⟨name.toArray⟩, .string ⟨text.toArray⟩, .int .i64 keep, .bool will, .string ⟨topic.toArray⟩, .bool clean, vN, vD]) 86)) f o s conn acts vW vC vA (h.alloc _) (by omega) 3 id code keep fl name text topic will clean vN vD ((hG.below h.bel).below (bal (Below.refl _ _) _)) hfl hid0 hid1 htl; have e := hr; simp only [pubR, Prod.mk.injEq] at e; obtain ⟨e1, e2, e3⟩ := e; rw [e1, e3] at this; rw [← e2]; exact this⟩
 rw [hr]
 simp only []
 clear hr h hl
 cases r1 with
 | false =>
  go_enter Tryz.func71, Tryz.ntmps71
  go_wp2_with (first | ((with_reducible refine gate_dst (N := 24) rfl ?_); refine wpList_load_row rfl 86 (.tmp 3) rfl w.heap.size rfl 86 (#[.int .i64 3, .int .i64 (fl : Int), .int .i64 id, .int .i64 code, .string ⟨name.toArray⟩, .string ⟨text.toArray⟩, .int .i64 keep, .bool will, .string ⟨topic.toArray⟩, .bool clean, vN, vD]) (0, 0) _ HBX.out Tryz.underlying86 rfl (by kernel_rfl) ?_) | (go_at_call 125; refine Calls.mono HC.out ?_; rintro e w1 ⟨rfl, vW', vC', vA', hf, hk⟩; have HF1 := Amk hf; have HK1 := Amk hk; clear hf hk))
  go_end0
  exact ⟨rfl, _, _, _, HF1.out, Went.after (bal (Below.refl _ _) _) HK1.out⟩
 | true =>
  go_enter Tryz.func71, Tryz.ntmps71
  go_wp2_with (first | ((with_reducible refine gate_dst (N := 24) rfl ?_); refine wpList_load_row rfl 86 (.tmp 3) rfl w.heap.size rfl 86 (#[.int .i64 3, .int .i64 (fl : Int), .int .i64 id, .int .i64 code, .string ⟨name.toArray⟩, .string ⟨text.toArray⟩, .int .i64 keep, .bool will, .string ⟨topic.toArray⟩, .bool clean, vN, vD]) (0, 0) _ HBX.out Tryz.underlying86 rfl (by kernel_rfl) ?_) | (go_at_call 125; refine Calls.mono HC.out ?_; rintro e w1 ⟨rfl, vW', vC', vA', hf, hk⟩; exact ⟨rfl, rfl, _, _, _, hf, Went.after (bal (Below.refl _ _) _) hk⟩))
def pongP : Pkt := ⟨13, 0, 0, 0, [], [], 0, false, [], false, [], []⟩
theorem pong_calls (w : World) : Calls Tryz.prog 76 #[.agg (pongP.pk (.slice none 0 0) (.slice none 0 0)).cells] w (EPost w (enc 13 0 []) 0) :=
 encode_ok pongP 13 0 ⟨rfl, rfl, by decide, by decide, by decide, by decide, by decide, by decide⟩ none none 0 0 [] w (fun W _ => rest_bare 13 0 (by decide) pongP _ _ W rfl rfl) (by decide)
  ⟨rfl, by decide, fun h => absurd h (by decide)⟩ (Nat.le_refl _) ⟨rfl, by decide, fun h => absurd h (by decide)⟩ (Nat.le_refl _) 2 (by rw [enc, lenEnc]; rfl)
theorem hear_ping (w0 w : World) (f o : Nat) (s : Mq) (conn : Int) (acts : List BAct) (vW vC vA : Value) (h : Fr w0 w f o s conn acts vW vC vA) (hl : acts.length ≤ 1048570) (flags id code keep : Int) (name text topic : List UInt8) (will clean : Bool) (vN vD : Value) :
  Calls Tryz.prog 71 #[.pointer (some ⟨f, 0, none⟩), .agg #[.int .i64 12, .int .i64 flags, .int .i64 id, .int .i64 code, .string ⟨name.toArray⟩, .string ⟨text.toArray⟩, .int .i64 keep, .bool will, .string ⟨topic.toArray⟩, .bool clean, vN, vD]] w (FPost w0 w f o conn vA vC false s (acts ++ [sayAct (enc 13 0 [])])) := by
 have HF := Amk (h.alloc (.cells (#[.int .i64 12, .int .i64 flags, .int .i64 id, .int .i64 code, .string ⟨name.toArray⟩, .string ⟨text.toArray⟩, .int .i64 keep, .bool will, .string ⟨topic.toArray⟩, .bool clean, vN, vD]) 86))
 have HL := Amk hl
 have HE := Amk (fun W => pong_calls W)
 clear h hl
 go_enter Tryz.func71, Tryz.ntmps71
 go_wp2_with (go_at_call 75; refine Calls.mono (say_calls w0 _ f o s conn acts vW vC vA HF.out (by have := HL.out; omega) pongP _ _ _ _ (fun W _ => HE.out W)) ?_; rintro e w1 ⟨rfl, vW', vC', vA', hf, hk⟩; have HF1 := Amk hf; have HK1 := Amk hk; clear hf hk)
 go_end0
 exact ⟨rfl, _, _, _, HF1.out, Went.after (bal (Below.refl _ _) _) HK1.out⟩
theorem hear_gone (w0 w : World) (f o : Nat) (s : Mq) (conn : Int) (acts : List BAct) (vW vC vA : Value) (h : Fr w0 w f o s conn acts vW vC vA) (hl : acts.length ≤ 1048570) (flags id code keep : Int) (name text topic : List UInt8) (will clean : Bool) (vN vD : Value) :
  Calls Tryz.prog 71 #[.pointer (some ⟨f, 0, none⟩), .agg #[.int .i64 14, .int .i64 flags, .int .i64 id, .int .i64 code, .string ⟨name.toArray⟩, .string ⟨text.toArray⟩, .int .i64 keep, .bool will, .string ⟨topic.toArray⟩, .bool clean, vN, vD]] w (FPost w0 w f o conn vA vC false (ended { s with will := [] }) (acts ++ [endAct])) := by
 have HF := Amk (h.alloc (.cells (#[.int .i64 14, .int .i64 flags, .int .i64 id, .int .i64 code, .string ⟨name.toArray⟩, .string ⟨text.toArray⟩, .int .i64 keep, .bool will, .string ⟨topic.toArray⟩, .bool clean, vN, vD]) 86))
 have HL := Amk hl
 clear h hl
 have c0 := HF.out.c0
 have z5 := HF.out.zo 5
 have o5 := (HF.out.cell 5).trans (show _ = some vW from rfl)
 have HF5 := Amk (HF.out.setO (s' := { s with will := [] }) 5 (.slice none 0 0) rfl (Kd.R_nil _ _ _ _ _) HF.out.own.codes)
 have HW5 := Amk (HF.out.seto 5 (.slice none 0 0))
 go_enter Tryz.func71, Tryz.ntmps71
 go_wp2_with (go_at_call 123; refine Calls.mono (end_calls w0 _ f o _ conn acts _ vC vA HF5.out (by have := HL.out; omega)) ?_; rintro e w1 ⟨rfl, vW', vC', vA', hf, hk⟩; have HF1 := Amk hf; have HK1 := Amk hk; clear hf hk)
 go_end0
 exact ⟨rfl, _, _, _, HF1.out, Went.after (bal (Below.refl _ _) _) (HW5.out.trans HK1.out)⟩
theorem hear_else (w0 w : World) (f o : Nat) (s : Mq) (conn : Int) (acts : List BAct) (vW vC vA : Value) (h : Fr w0 w f o s conn acts vW vC vA) (hl : acts.length ≤ 1048570) (kind flags id code keep : Int) (name text topic : List UInt8) (will clean : Bool) (vN vD : Value) (h1 : ¬ kind = 1) (h3 : ¬ kind = 3) (h6 : ¬ kind = 6) (h8 : ¬ kind = 8) (h10 : ¬ kind = 10) (h12 : ¬ kind = 12) (h14 : ¬ kind = 14) :
  Calls Tryz.prog 71 #[.pointer (some ⟨f, 0, none⟩), .agg #[.int .i64 kind, .int .i64 flags, .int .i64 id, .int .i64 code, .string ⟨name.toArray⟩, .string ⟨text.toArray⟩, .int .i64 keep, .bool will, .string ⟨topic.toArray⟩, .bool clean, vN, vD]] w (FPost w0 w f o conn vA vC true s acts) := by
 have HF := Amk (h.alloc (.cells (#[.int .i64 kind, .int .i64 flags, .int .i64 id, .int .i64 code, .string ⟨name.toArray⟩, .string ⟨text.toArray⟩, .int .i64 keep, .bool will, .string ⟨topic.toArray⟩, .bool clean, vN, vD]) 86))
 clear h hl
 go_enter Tryz.func71, Tryz.ntmps71
 go_wp2_with (go_at_call 70; refine Calls.mono (unlessQ_no _) ?_; rintro e2 w2 ⟨rfl, rfl⟩)
 exact ⟨rfl, rfl, _, _, _, HF.out, Went.after (bal (Below.refl _ _) _) (Went.refl _ _ _ _ _)⟩
theorem hear_rel (w0 w : World) (f o : Nat) (s : Mq) (conn : Int) (acts : List BAct) (vW vC vA : Value) (h : Fr w0 w f o s conn acts vW vC vA) (hl : acts.length ≤ 1048570) (flags id code keep : Int) (name text topic : List UInt8) (will clean : Bool) (vN vD : Value) (hG : WI w0) (hid0 : 0 ≤ id) (hid1 : id ≤ 65535) :
  Calls Tryz.prog 71 #[.pointer (some ⟨f, 0, none⟩), .agg #[.int .i64 6, .int .i64 flags, .int .i64 id, .int .i64 code, .string ⟨name.toArray⟩, .string ⟨text.toArray⟩, .int .i64 keep, .bool will, .string ⟨topic.toArray⟩, .bool clean, vN, vD]] w (FPost w0 w f o conn vA vC false s (acts ++ [doAct 6 (itoaB id) [({ zOp with kind := 6, text := s.client, n := id } : BOp)]])) := by
 have HF0 := Amk h
 have HL := Amk hl
 have HGW := Amk (hG.below h.bel)
 have HI : Aside0 (∀ W, WI W → Calls Tryz.prog 54 #[.int .i64 id] W fun e w' => e = .returned (.string (itoaB id)) ∧ Below W.heap.size W w') := ⟨fun W hG => itoa_calls id (by omega) (by omega) W hG⟩
 have HBX := Amk (heap_alloc_new w (.cells (#[.int .i64 6, .int .i64 flags, .int .i64 id, .int .i64 code, .string ⟨name.toArray⟩, .string ⟨text.toArray⟩, .int .i64 keep, .bool will, .string ⟨topic.toArray⟩, .bool clean, vN, vD]) 86))
 clear h hl hG hid0 hid1
 have HBA := Amk (bal (Below.refl w.heap.size w) (.cells (#[.int .i64 6, .int .i64 flags, .int .i64 id, .int .i64 code, .string ⟨name.toArray⟩, .string ⟨text.toArray⟩, .int .i64 keep, .bool will, .string ⟨topic.toArray⟩, .bool clean, vN, vD]) 86))
 have HF := Amk (HF0.out.below HBA.out)
 have HGx := Amk (HGW.out.below HBA.out)
 have HWx := Amk ((Went.refl w f o vA vC).below HBA.out)
 go_enter Tryz.func71, Tryz.ntmps71
 go_upto_region 8 with (fail)
 clear HBA
 generalize w.alloc (.cells (#[.int .i64 6, .int .i64 flags, .int .i64 id, .int .i64 code, .string ⟨name.toArray⟩, .string ⟨text.toArray⟩, .int .i64 keep, .bool will, .string ⟨topic.toArray⟩, .bool clean, vN, vD]) 86) = wc at *
 have HXD : Aside0 (wc.drew.heap[w.heap.size]? = some (.cells (#[.int .i64 6, .int .i64 flags, .int .i64 id, .int .i64 code, .string ⟨name.toArray⟩, .string ⟨text.toArray⟩, .int .i64 keep, .bool will, .string ⟨topic.toArray⟩, .bool clean, vN, vD]) 86 (0, 0))) := ⟨HBX.out⟩
 have HFD := Amk HF.out.drew
 have HGD := Amk (HGx.out.below (bdr (Below.refl wc.heap.size wc)))
 have HWD := Amk (HWx.out.below (bdr (Below.refl wc.heap.size wc)))
 have ced := And.intro HFD.out.c0 (And.intro ((HFD.out.cell 3).trans (show _ = some (Value.string s.client) from rfl)) ((bqc HXD.out 2).trans (show _ = some (Value.int .i64 id) from rfl)))
 go_region_held3 (fun W => W.cell? ⟨f, 0, none⟩ = some (.pointer (some ⟨o, 0, none⟩)) ∧ W.cell? ⟨o, 3, none⟩ = some (.string s.client) ∧ W.cell? ⟨w.heap.size, 2, none⟩ = some (.int .i64 id)) (first | with_reducible exact ce4 | with_reducible exact cee | exact And.intro (HFE.out.alloc _).c0 (And.intro (((HFE.out.alloc _).cell 3).trans (show _ = some (Value.string s.client) from rfl)) ((bqc (bka HXE.out _) 2).trans (show _ = some (Value.int .i64 id) from rfl))) | with_reducible exact ced | exact And.intro (HFD.out.alloc _).c0 (And.intro (((HFD.out.alloc _).cell 3).trans (show _ = some (Value.string s.client) from rfl)) ((bqc (bka HXD.out _) 2).trans (show _ = some (Value.int .i64 id) from rfl)))) (first
  | (go_at_call 54; first
   | (with_reducible refine Calls.mono (HI.out _ HGD.out) ?_; rintro e w1 ⟨rfl, hb⟩; have HXE := Amk ((hb.block _ (blt HXD.out)).trans HXD.out); have HFE := Amk (HFD.out.below hb); have HWE := Amk (HWD.out.below hb); have cee := And.intro HFE.out.c0 (And.intro ((HFE.out.cell 3).trans (show _ = some (Value.string s.client) from rfl)) ((bqc HXE.out 2).trans (show _ = some (Value.int .i64 id) from rfl))); clear hb)
   | (refine Calls.mono (HI.out _ (HGD.out.below (bal (Below.refl _ _) _))) ?_; rintro e w1 ⟨rfl, hb⟩; have HXE := Amk ((hb.block _ (blt (bka HXD.out _))).trans (bka HXD.out _)); have HFE := Amk ((HFD.out.alloc _).below hb); have HWE := Amk ((HWD.out.below (bal (Below.refl _ _) _)).below hb); have HR3 := Amk ((hb.block _ (blt (heap_alloc_new _ _))).trans (heap_alloc_new _ _)); have cee := And.intro HFE.out.c0 (And.intro ((HFE.out.cell 3).trans (show _ = some (Value.string s.client) from rfl)) ((bqc HXE.out 2).trans (show _ = some (Value.int .i64 id) from rfl))); clear hb))
  | (go_at_call 126; first
   | (have := HR3; (refine Calls.mono (do_calls w0 _ f o s conn acts vW vC vA (HFE.out) (by have := HL.out; omega) 6 (itoaB id) _ 1 [({ zOp with kind := 6, text := s.client, n := id } : BOp)] (ops_one (x := ({ zOp with kind := 6, text := s.client, n := id } : BOp)) (HR3.out)) (one_le _)) ?_; rintro e wq ⟨rfl, vW', vC', vA', hf, hk⟩; have HF1 := Amk hf; have HK1 : Aside0 (Went w wq f o vA vC vA' vC') := ⟨HWE.out.trans hk⟩; have HX4 := Amk (blk_kept HXE.out hk.kept (HF0.out.far (Nat.le_refl _))); have ce4 := And.intro HF1.out.c0 (And.intro ((HF1.out.cell 3).trans (show _ = some (Value.string s.client) from rfl)) ((bqc HX4.out 2).trans (show _ = some (Value.int .i64 id) from rfl))); clear hf hk))
   | (refine Calls.mono (do_calls w0 _ f o s conn acts vW vC vA (HFE.out.alloc _) (by have := HL.out; omega) 6 (itoaB id) _ 1 [({ zOp with kind := 6, text := s.client, n := id } : BOp)] (ops_one (x := ({ zOp with kind := 6, text := s.client, n := id } : BOp)) (heap_alloc_new _ _)) (one_le _)) ?_; rintro e wq ⟨rfl, vW', vC', vA', hf, hk⟩; have HF1 := Amk hf; have HK1 : Aside0 (Went w wq f o vA vC vA' vC') := ⟨(HWE.out.below (bal (Below.refl _ _) _)).trans hk⟩; have HX4 := Amk (blk_kept (bka HXE.out _) hk.kept (HF0.out.far (Nat.le_refl _))); have ce4 := And.intro HF1.out.c0 (And.intro ((HF1.out.cell 3).trans (show _ = some (Value.string s.client) from rfl)) ((bqc HX4.out 2).trans (show _ = some (Value.int .i64 id) from rfl))); clear hf hk)))
 all_goals go_wp2_with fail
 all_goals go_end0
 all_goals exact ⟨rfl, _, _, _, HF1.out, HK1.out⟩
def unackP (id : Int) : Pkt := ⟨11, 0, id, 0, [], [], 0, false, [], false, [], []⟩
theorem R_went {w0 W W1 : World} {f o : Nat} {s : Mq} {conn : Int} {acts : List BAct} {vW vC vA vA' vC' v : Value} {base : Nat} {xs : List ByteArray} (hR : Kd.string.R 9 W base (fun _ => True) v xs) (h : Fr w0 W f o s conn acts vW vC vA) (hk : Went W W1 f o vA vC vA' vC') : Kd.string.R 9 W1 base (fun _ => True) v xs := by
 refine Kd.R_mono (Kd.R_move (Kd.R_bound hR) (fun k hk' => hk.kept.2 k hk'.2.2.1 ?_)) (fun _ _ => trivial)
 obtain ⟨_, _, _, q, hq, cells, hc⟩ := hk'
 have hq9 : q = 9 := by simpa [show Kd.string.E = [] from rfl] using hq
 subst hq9
 rintro (e | e | e | e)
 ·
  subst e; rw [h.fb] at hc; simp at hc
 ·
  subst e; rw [h.own.blk] at hc; simp at hc
 ·
  exact absurd e (Kd.R_ne h.row hc (by decide))
 ·
  exact absurd e (Kd.R_ne h.own.codes hc (by decide))
theorem Fr.far86 {w0 W : World} {f o k : Nat} {s : Mq} {conn : Int} {acts : List BAct} {vW vC vA : Value} {cells : Array Value} (h : Fr w0 W f o s conn acts vW vC vA) (hc : W.heap[k]? = some (.cells cells 86 (0, 0))) : ¬ FrK f o vA vC k := by
 rintro (e | e | e | e)
 ·
  subst e; rw [h.fb] at hc; simp at hc
 ·
  subst e; rw [h.own.blk] at hc; simp at hc
 ·
  exact absurd e (Kd.R_ne h.row hc (by decide))
 ·
  exact absurd e (Kd.R_ne h.own.codes hc (by decide))
def unbindAct (s : Mq) (t : List UInt8) : BAct := doAct 1 ⟨#[]⟩ [{ zOp with kind := 4, queue := ⟨#[109, 45]⟩ ++ s.client, text := ⟨t.toArray⟩ }]
def unbinds (s : Mq) (names : List ByteArray) : List BAct := names.filterMap fun p => (M.dotsB p.data.toList).map (unbindAct s)
theorem hear_unsub (w0 w : World) (f o : Nat) (s : Mq) (conn : Int) (acts : List BAct) (vW vC vA : Value) (h : Fr w0 w f o s conn acts vW vC vA) (hl : acts.length ≤ 1048000) (flags id code keep : Int) (name text topic : List UInt8) (will clean : Bool) (vD : Value) (AN : Option Addr) (cN : Nat) (names : List ByteArray) (hN : Kd.string.R 9 w w0.heap.size (fun _ => True) (.slice AN names.length cN) names) (hnc : names.length ≤ cN) (hn32 : names.length ≤ 32) (hns : ∀ p ∈ names, p.size ≤ 131072) (hG : WI w0) (hcs : s.client.size ≤ 1048576) (ub : List UInt8) (hE : ∀ W, Calls Tryz.prog 76 #[.agg ((unackP id).pk (.slice none 0 0) (.slice none 0 0)).cells] W (EPost W ub 0)) :
  Calls Tryz.prog 71 #[.pointer (some ⟨f, 0, none⟩), .agg #[.int .i64 10, .int .i64 flags, .int .i64 id, .int .i64 code, .string ⟨name.toArray⟩, .string ⟨text.toArray⟩, .int .i64 keep, .bool will, .string ⟨topic.toArray⟩, .bool clean, .slice AN names.length cN, vD]] w (FPost w0 w f o conn vA vC false s ((acts ++ unbinds s names) ++ [sayAct ub])) := by
 have HF := Amk (h.alloc (.cells (#[.int .i64 10, .int .i64 flags, .int .i64 id, .int .i64 code, .string ⟨name.toArray⟩, .string ⟨text.toArray⟩, .int .i64 keep, .bool will, .string ⟨topic.toArray⟩, .bool clean, .slice AN names.length cN, vD]) 86))
 have HL := Amk hl
 have HN := Amk (Kd.R_below hN (bal (Below.refl _ _) (.cells (#[.int .i64 10, .int .i64 flags, .int .i64 id, .int .i64 code, .string ⟨name.toArray⟩, .string ⟨text.toArray⟩, .int .i64 keep, .bool will, .string ⟨topic.toArray⟩, .bool clean, .slice AN names.length cN, vD]) 86)))
 have H32 := Amk hn32
 have HNS := Amk hns
 have HG := Amk hG
 have HBX := Amk (heap_alloc_new w (.cells (#[.int .i64 10, .int .i64 flags, .int .i64 id, .int .i64 code, .string ⟨name.toArray⟩, .string ⟨text.toArray⟩, .int .i64 keep, .bool will, .string ⟨topic.toArray⟩, .bool clean, .slice AN names.length cN, vD]) 86))
 have HE := Amk hE
 have HQ : Aside0 (∀ W, Calls Tryz.prog 85 #[.string s.client] W fun e w' => e = .returned (.string (⟨#[109, 45]⟩ ++ s.client)) ∧ Below W.heap.size W w') := ⟨fun W => (QT.mqtt_queue.calls s.client _ W (by unfold QT.mqtt_queue.f; rw [if_pos (by omega)])).mono (by rintro e w' ⟨rfl, hd⟩; exact ⟨rfl, hd.below⟩)⟩
 clear hcs h hl hN hn32 hns hG hnc hE
 obtain ⟨nn, hnn⟩ : ∃ nn, nn = names.length := ⟨_, rfl⟩
 rw [← hnn]
 rw [← hnn] at HF HN H32 HBX
 have HNN := Amk hnn
 clear hnn
 go_enter Tryz.func71, Tryz.ntmps71
 go_wp2_with fail
 go_loopg [92] nn (fun kq v92 wx => ∃ j vW' vC' vA', v92 = .int .i64 (j : Nat) ∧ j + kq = nn ∧ Aside0 (Fr w0 wx f o s conn (acts ++ unbinds s (names.take j)) vW' vC' vA') ∧ Aside0 (Went w wx f o vA vC vA' vC') ∧ Aside0 (wx.heap[w.heap.size]? = some (.cells (#[.int .i64 10, .int .i64 flags, .int .i64 id, .int .i64 code, .string ⟨name.toArray⟩, .string ⟨text.toArray⟩, .int .i64 keep, .bool will, .string ⟨topic.toArray⟩, .bool clean, .slice AN nn cN, vD]) 86 (0, 0))) ∧ Aside0 (Kd.string.R 9 wx w0.heap.size (fun _ => True) (.slice AN nn cN) names))
 case atStart => exact ⟨0, vW, vC, vA, rfl, by omega, ⟨by simpa [unbinds] using HF.out⟩, ⟨Went.after (bal (Below.refl _ _) _) (Went.refl _ _ _ _ _)⟩, HBX, HN⟩
 case round =>
  obtain ⟨j, vW', vC', vA', rfl, hj, HF2, HW2, HBX2, HN2⟩ := hrel
  clear HF HBX HN
  cases gk with
  | zero =>
   have hge : decide ((j : Int) < (nn : Int)) = false := decide_eq_false (by omega)
   have hjn : j = names.length := by rw [← HNN.out]; omega
   have HFE : Aside0 (Fr w0 wr f o s conn (acts ++ unbinds s names) vW' vC' vA') := ⟨by have := HF2.out; rwa [hjn, List.take_length] at this⟩
   have hul : (unbinds s names).length ≤ 32 := Nat.le_trans (List.length_filterMap_le _ _) (by rw [← HNN.out]; exact H32.out)
   have HLL : Aside0 ((acts ++ unbinds s names).length ≤ 1048576) := ⟨by have := HL.out; simp only [List.length_append]; omega⟩
   clear hul hjn
   have ci := (bqc HBX2.out 2).trans (show _ = some (Value.int .i64 id) from rfl)
   go_wp2_with (go_at_call 75; refine Calls.mono (say_calls w0 _ f o s conn _ _ _ _ HFE.out HLL.out (unackP id) _ _ _ _ (fun W _ => HE.out W)) ?_; rintro e w1 ⟨rfl, vW2, vC2, vA2, hf, hk⟩; have HF1 := Amk hf; have HK1 := Amk hk; clear hf hk)
   go_end0
   exact ⟨rfl, _, _, _, HF1.out, HW2.out.trans HK1.out⟩
  | succ g =>
   have hlt : decide ((j : Int) < (nn : Int)) = true := decide_eq_true (by omega)
   have hjl : j < names.length := by have := HNN.out; omega
   have hjb : j < 1048576 := by have := H32.out; omega
   obtain ⟨hn1, hn2, hC⟩ := Kd.R_reads' HN2.out
   rw [← hn1] at hC
   obtain ⟨ad, rfl, hcell⟩ := Kd.at_string hC (j : Int) (by omega) (by omega)
   simp only [Int.toNat_natCast] at hcell
   obtain ⟨p, hp⟩ : ∃ p, rdOf ByteArray.empty names (j : Int) = p := ⟨_, rfl⟩
   rw [hp] at hcell
   have hpn : p = names[j] := by rw [← hp]; simp [rdOf, hjl]
   have HT : Aside0 (unbinds s (names.take (j + 1)) = unbinds s (names.take j) ++ unbinds s [p]) := ⟨by rw [List.take_succ_eq_append_getElem hjl, ← hpn]; simp [unbinds]⟩
   have hps : p.size ≤ 131072 := HNS.out p (by rw [hpn]; exact List.getElem_mem hjl)
   obtain ⟨⟨l⟩⟩ := p
   have HGr := Amk (HG.out.below HF2.out.bel)
   have HD := Amk (U.dots_calls l (by simpa [ByteArray.size] using hps))
   clear hps hpn hp hC hn1 hn2
   cases hd : M.dotsB l with
   | none =>
    rw [hd] at HD
    have HU : Aside0 (unbinds s [⟨⟨l⟩⟩] = []) := ⟨by simp [unbinds, hd]⟩
    clear hd
    go_wp2_with (go_at_call 44; refine Calls.mono (HD.out _ HGr.out) ?_; rintro e w1 ⟨rfl, hb⟩; have HB1 := Amk hb; clear hb; simp only [U.out])
    go_roundg g
    case rel => exact ⟨j + 1, vW', vC', vA', by go_num, by omega, ⟨by rw [HT.out, HU.out, List.append_nil]; exact HF2.out.below HB1.out⟩, ⟨HW2.out.below HB1.out⟩, ⟨(HB1.out.block _ (blt HBX2.out)).trans HBX2.out⟩, ⟨Kd.R_below HN2.out HB1.out⟩⟩
    case measure => omega
   | some t =>
    rw [hd] at HD
    have HU : Aside0 (unbinds s [⟨⟨l⟩⟩] = [unbindAct s t]) := ⟨by simp [unbinds, hd]⟩
    clear hd
    have hul : (unbinds s (names.take j)).length ≤ 32 := Nat.le_trans (List.length_filterMap_le _ _) (by rw [List.length_take]; have := H32.out; omega)
    have HLL : Aside0 ((acts ++ unbinds s (names.take j)).length ≤ 1048576) := ⟨by have := HL.out; simp only [List.length_append]; omega⟩
    clear hul
    go_wp2_with (first
     | (go_at_call 44; refine Calls.mono (HD.out _ HGr.out) ?_; rintro e w1 ⟨rfl, hb⟩; have HB1 := Amk hb; have HF3 := Amk (HF2.out.below hb); have c0 := HF3.out.c0; have c3 := (HF3.out.cell 3).trans (show _ = some (Value.string s.client) from rfl); clear hb; simp only [U.out])
     | (go_at_call 85; refine Calls.mono (HQ.out _) ?_; rintro e w2 ⟨rfl, hb⟩; have HB2 := Amk hb; have HF4 := Amk (HF3.out.below hb); clear hb)
     | (go_at_call 126; refine Calls.mono (do_calls w0 _ f o s conn _ _ _ _ (HF4.out.alloc _) HLL.out 1 ⟨#[]⟩ _ 1 [({ zOp with kind := 4, queue := ⟨#[109, 45]⟩ ++ s.client, text := ⟨t.toArray⟩ } : BOp)] (ops_one (x := ({ zOp with kind := 4, queue := ⟨#[109, 45]⟩ ++ s.client, text := ⟨t.toArray⟩ } : BOp)) (heap_alloc_new _ _)) (one_le _)) ?_; rintro e w5 ⟨rfl, vW2, vC2, vA2, hf, hk⟩; have HF5 := Amk hf; have HK5 := Amk hk; clear hf hk))
    have HWA := Amk (((HW2.out.below HB1.out).below HB2.out).below (bal (Below.refl _ _) _) |>.trans HK5.out)
    go_roundg g
    case rel => exact ⟨j + 1, vW2, vC2, vA2, by go_num, by omega, ⟨by rw [HT.out, HU.out, ← List.append_assoc]; exact HF5.out⟩, HWA, ⟨blk_kept (bka ((HB2.out.block _ (blt ((HB1.out.block _ (blt HBX2.out)).trans HBX2.out))).trans ((HB1.out.block _ (blt HBX2.out)).trans HBX2.out)) _) HK5.out.kept (HF4.out.far86 ((HB2.out.block _ (blt ((HB1.out.block _ (blt HBX2.out)).trans HBX2.out))).trans ((HB1.out.block _ (blt HBX2.out)).trans HBX2.out)))⟩, ⟨R_went (Kd.R_below (Kd.R_below (Kd.R_below HN2.out HB1.out) HB2.out) (bal (Below.refl _ _) _)) (HF4.out.alloc _) HK5.out⟩⟩
    case measure => omega
end Go.Proofs.YtednegmjjjdinaaGreatDoor.Ext
