/- Texts of this claim's author, joined and pruned by a program of his (pack.py): Yl, Ym, Yn, Yo, Yp, Yq, La. -/
import Derived.Test.YtednegmjjjdinaaGreatDoorP0
import Derived.Test.YtednegmjjjdinaaGreatDoorP1
import Derived.Test.YtednegmjjjdinaaGreatDoorP2
import Derived.Test.YtednegmjjjdinaaGreatDoorP3
import Derived.Test.YtednegmjjjdinaaGreatDoorP4
import Derived.Test.YtednegmjjjdinaaGreatDoorP5
import Derived.Test.YtednegmjjjdinaaGreatDoorP7
import Derived.Test.YtednegmjjjdinaaGreatDoorP10
import Derived.Test.YtednegmjjjdinaaGreatDoorP11
import Derived.Test.YtednegmjjjdinaaGreatDoorP12
import Derived.Test.YtednegmjjjdinaaGreatDoorP13
import Derived.Test.YtednegmjjjdinaaGreatDoorP14
import Derived.Test.YtednegmjjjdinaaGreatDoorP15
import Derived.Test.YtednegmjjjdinaaGreatDoorP16
set_option maxRecDepth 100000
set_option maxHeartbeats 4000000
open Go.Proofs.YtednegmjjjdinaaGreatDoorW.PrintWords renaming blk_cell → bqc, below_alloc → bal, below_drew1 → bdr, blk_alloc → bka, blk_lt → blt
open List renaming getElem_toArray → Lga, getElem_cons_zero → Lgz, getElem_cons_succ → Lgs, setIfInBounds_toArray → Lsa, set_cons_zero → Lsz, set_cons_succ → Lss
open Go.Proofs.YtednegmjjjdinaaGreatDoorW.PrintWords.Aside0 renaming mk → Amk
namespace Go.Proofs.YtednegmjjjdinaaGreatDoor.Ext
open Go.RowKit Go.Proofs.YtednegmjjjdinaaGreatDoorW.PrintWords Go.Proofs.YtednegmjjjdinaaGreatDoorW.PrintLast Go.Proofs.YtednegmjjjdinaaGreatDoorW.PrintMore
set_option linter.unusedVariables false
set_option linter.unusedSimpArgs false
def ackP (k : Nat) (id : Int) : Pkt := ⟨k, 0, id, 0, [], [], 0, false, [], false, [], []⟩
theorem ack_calls (k id : Nat) (hk : k = 4 ∨ k = 5 ∨ k = 7 ∨ k = 11) (h1 : 1 ≤ id) (h2 : id ≤ 65535) (w : World) : Calls Tryz.prog 76 #[.agg ((ackP k id).pk (.slice none 0 0) (.slice none 0 0)).cells] w (EPost w (enc k 0 (be16 id)) 0) :=
 encode_ok (ackP k id) k 0 ⟨rfl, rfl, by omega, by omega, by decide, by simp [ackP], by simp [ackP], by simp [ackP]⟩ none none 0 0 (be16 id) w (fun W _ => rest_id k id (by omega) (ackP k id) _ _ W rfl rfl) (by simp [be16])
  ⟨rfl, by simp [ackP], fun h => absurd h (Nat.lt_irrefl 0)⟩ (Nat.le_refl _) ⟨rfl, by simp [ackP], fun h => absurd h (Nat.lt_irrefl 0)⟩ (Nat.le_refl _) 4 (next_ack k id hk h1 h2)
def okP : Pkt := ⟨2, 0, 0, 0, [], [], 0, false, [], false, [], []⟩
theorem ok_calls (w : World) : Calls Tryz.prog 76 #[.agg (okP.pk (.slice none 0 0) (.slice none 0 0)).cells] w (EPost w (enc 2 0 [0, 0]) 0) :=
 encode_ok okP 2 0 ⟨rfl, rfl, by decide, by decide, by decide, by decide, by decide, by decide⟩ none none 0 0 [0, 0] w (fun W _ => rest_ack 0 0 0 (by decide) (by decide) okP _ _ W rfl rfl rfl rfl) (by decide)
  ⟨rfl, by decide, fun h => absurd h (by decide)⟩ (Nat.le_refl _) ⟨rfl, by decide, fun h => absurd h (by decide)⟩ (Nat.le_refl _) 4 next_ok0
def subackP (id : Int) (cs : List Int) : Pkt := ⟨9, 0, id, 0, [], [], 0, false, [], false, [], cs⟩
theorem suback_calls (id : Nat) (cs : List Int) (A : Option Addr) (c : Nat) (h1 : 1 ≤ id) (h2 : id ≤ 65535) (hn : cs ≠ []) (hl : cs.length ≤ 32) (hc : ∀ x ∈ cs, x = 0 ∨ x = 128) (w : World) (hC : (Kd.int .i64).C w A cs.length cs) (hk : cs.length ≤ c) :
  Calls Tryz.prog 76 #[.agg ((subackP id cs).pk (.slice none 0 0) (.slice A cs.length c)).cells] w (EPost w (enc 9 0 (be16 id ++ cs.map byteOf)) 0) :=
 encode_ok (subackP id cs) 9 0 ⟨rfl, rfl, by decide, by decide, by decide, by simp [subackP], hl, by simp [subackP]⟩ none A 0 c _ w (fun W hB => rest_suback id (subackP id cs) none A 0 c W rfl rfl rfl (Kd.C_below hC hB) (by show cs.length ≤ _; omega)) (by simp [be16]; omega)
  ⟨rfl, by simp [subackP], fun h => absurd h (Nat.lt_irrefl 0)⟩ (Nat.le_refl _) hC hk (4 + cs.length) (next_suback id cs h1 h2 hn hl hc)
theorem decFrom_app (l : List UInt8) (b : UInt8) : ∀ acc n d, Lib.decFrom acc l = some n → Lib.digitVal b = some d → Lib.decFrom acc (l ++ [b]) = some (n * 10 + d) := by
 induction l with
 | nil => intro acc n d h hb; simp only [Lib.decFrom, Option.some.injEq] at h; simp [Lib.decFrom, hb, h]
 | cons a l ih =>
  intro acc n d h hb
  simp only [List.cons_append, Lib.decFrom] at h ⊢
  cases ha : Lib.digitVal a with
  | none => rw [ha] at h; cases h
  | some e => rw [ha] at h; exact ih _ n d h hb
theorem digit_of (d : Nat) (h : d < 10) : Lib.digitVal (UInt8.ofNat (48 + d)) = some d := by
 unfold Lib.digitVal
 have : (UInt8.ofNat (48 + d)).toNat = 48 + d := by simp only [UInt8.toNat_ofNat']; omega
 rw [this, if_pos (by omega)]
 congr 1; omega
theorem decFrom_digits (n : Nat) : Lib.decFrom 0 (Lib.decDigits n) = some n := by
 induction n using Nat.strongRecOn with
 | _ n ih =>
  rw [Lib.decDigits]
  split
  ·
   rename_i h
   have hd := digit_of n h
   rw [Lib.decFrom, hd]
   simp [Lib.decFrom]
  ·
   rename_i h
   rw [decFrom_app _ _ 0 (n / 10) (n % 10) (ih (n / 10) (by omega)) (digit_of _ (Nat.mod_lt _ (by decide)))]
   congr 1; omega
theorem digits_head (n : Nat) : ∃ b r, Lib.decDigits n = b :: r ∧ 48 ≤ b.toNat := by
 induction n using Nat.strongRecOn with
 | _ n ih =>
  rw [Lib.decDigits]
  split
  ·
   exact ⟨_, _, rfl, by simp only [UInt8.toNat_ofNat']; omega⟩
  ·
   obtain ⟨b, r, h, hb⟩ := ih (n / 10) (by omega)
   exact ⟨b, r ++ _, by rw [h]; rfl, hb⟩
theorem atoi_itoa (n : Nat) (hn : n ≤ 65535) : Lib.atoiAll (itoaB n).data.toList = .ok (n : Int) := by
 have e : (itoaB n).data.toList = Lib.decDigits n := by
  unfold itoaB Lib.itoa
  rw [if_neg (by omega)]
  simp
 have hl : (Lib.decDigits n).length ≤ 18 := by
  have := decDigits_le 5 n (by omega)
  omega
 rw [e, Lib.atoiAll_short _ hl]
 obtain ⟨b, r, h, hb⟩ := digits_head n
 have h45 : (b == 45) = false := by rw [beq_eq_false_iff_ne]; rintro rfl; exact absurd hb (by decide)
 have h43 : (b == 43) = false := by rw [beq_eq_false_iff_ne]; rintro rfl; exact absurd hb (by decide)
 have hd := decFrom_digits n
 rw [h] at hd ⊢
 simp [Lib.atoi, h45, h43, Lib.decNat, hd, Lib.NumEnd.ofOption]
theorem atoi_calls (text : ByteArray) (id : Nat) (ht : (text = itoaB id ∧ id ≤ 65535) ∨ (text = ⟨#[]⟩ ∧ id = 0)) (w : World) (hG : WI w) : Calls Tryz.prog 72 #[.string text] w fun e w' => ∃ v, e = .returned (.tuple #[.int .i64 id, v]) ∧ Below w.heap.size w w' := by
 rcases ht with ⟨rfl, hid⟩ | ⟨rfl, rfl⟩
 ·
  have hz : (itoaB id).size ≤ 9223372036854775806 := by
   have := itoa_len id (by omega) (by omega)
   simp only [itoaB, ByteArray.size, List.size_toArray]; omega
  refine Calls.mono (Tryz.strconv_Atoi_ok (itoaB id) hz id (atoi_itoa id hid) w) ?_
  rintro e w' ⟨rfl, rfl | ⟨t, rfl⟩⟩
  ·
   exact ⟨_, rfl, Below.refl _ _⟩
  ·
   exact ⟨_, rfl, Lib.bytesWorld_below _ _ _⟩
 ·
  obtain ⟨te, pe, hv⟩ := hG.2.2
  refine Calls.mono (Tryz.strconv_Atoi_syntax ⟨#[]⟩ (by decide) (by rfl) (.iface te pe) w hv (.inr ⟨te, pe, rfl⟩)) ?_
  rintro e w' ⟨N, rfl, _, _, hb⟩
  exact ⟨_, rfl, hb⟩
theorem hear_calls (w0 w : World) (f o : Nat) (s : Mq) (conn : Int) (vW vC vA : Value) (h : Fr w0 w f o s conn [] vW vC vA) (hG : WI w0) (q : Pkt) (hq : PktOk q) (hm : MqOk s) (hc0 : 0 ≤ conn) (hc1 : conn ≤ 9223372036854775807) (vN vD : Value) (hN : Kd.string.R 9 w w0.heap.size (fun _ => True) vN q.names) :
  Calls Tryz.prog 71 #[.pointer (some ⟨f, 0, none⟩), .agg (q.pk vN vD).cells] w (FPost w0 w f o conn vA vC (hearF s conn q).1 (hearF s conn q).2.1 (hearF s conn q).2.2) := by
 obtain ⟨⟨code, hco, hc256⟩, ⟨fl, hfl, hf16, _⟩, ⟨i, hi, hi65, hi1, hip⟩, hnm, htp, hns, heach⟩ := hq
 obtain ⟨kind, flags, id, cd, name, text, keep, will, topic, clean, names, codes⟩ := q
 simp only at hco hfl hi hi1 hip hnm htp hns heach hN
 subst hco hfl hi
 unfold hearF
 simp only [Pkt.pk, Pk.cells, Int.toNat_natCast]
 by_cases h1 : kind = 1
 ·
  subst h1
  rw [if_pos rfl]
  exact hear_conn w0 w f o s conn [] vW vC vA h (by simp) fl i keep code name text topic will clean vN vD hG hc256 hc0 hc1 (by omega) (by omega)
 rw [if_neg h1]
 by_cases h3 : kind = 3
 ·
  subst h3
  rw [if_pos rfl]
  exact hear_pub w0 w f o s conn [] vW vC vA h (by simp) i code keep fl name text topic will clean vN vD hG hf16 (by omega) (by omega) (by omega)
 rw [if_neg h3]
 by_cases h6 : kind = 6
 ·
  subst h6
  rw [if_pos rfl]
  exact hear_rel w0 w f o s conn [] vW vC vA h (by simp) fl i code keep name text topic will clean vN vD hG (by omega) (by omega)
 rw [if_neg h6]
 have hcl : s.client.size ≤ 1048576 := by have := hm.client; omega
 by_cases h8 : kind = 8
 ·
  subst h8
  rw [if_pos rfl]
  obtain ⟨A, c, hv⟩ := Kd.R_slice hN
  subst hv
  obtain ⟨_, hnc, _⟩ := Kd.R_reads' hN
  exact hear_sub w0 w f o s conn [] vW vC vA h (by simp) fl i code keep name text topic will clean vD A c names hN hnc hns (fun p hp => by have := heach p hp; omega) hG hcl (by omega) (by omega)
 rw [if_neg h8]
 by_cases h10 : kind = 10
 ·
  subst h10
  rw [if_pos rfl]
  obtain ⟨A, c, hv⟩ := Kd.R_slice hN
  subst hv
  obtain ⟨_, hnc, _⟩ := Kd.R_reads' hN
  exact hear_unsub w0 w f o s conn [] vW vC vA h (by simp) fl i code keep name text topic will clean vD A c names hN hnc hns (fun p hp => by have := heach p hp; omega) hG hcl _ (fun W => ack_calls 11 i (by simp) (hi1 (by simp)) hi65 W)
 rw [if_neg h10]
 by_cases h12 : kind = 12
 ·
  subst h12
  rw [if_pos rfl]
  exact hear_ping w0 w f o s conn [] vW vC vA h (by simp) fl i code keep name text topic will clean vN vD
 rw [if_neg h12]
 by_cases h14 : kind = 14
 ·
  subst h14
  rw [if_pos rfl]
  exact hear_gone w0 w f o s conn [] vW vC vA h (by simp) fl i code keep name text topic will clean vN vD
 rw [if_neg h14]
 exact hear_else w0 w f o s conn [] vW vC vA h (by simp) kind fl i code keep name text topic will clean vN vD h1 h3 h6 h8 h10 h12 h14
theorem clos69_bad (w0 w : World) (f o : Nat) (s : Mq) (conn : Int) (vW vC vA : Value) (h : Fr w0 w f o s conn [] vW vC vA) (er : Int) (q : Pkt) (vN vD : Value) (eb xb pb : Nat) (he : w.heap[eb]? = some (.cells #[.int .i64 er] 24 (0, 0))) (hx : w.heap[xb]? = some (.cells (q.pk vN vD).cells 86 (0, 0))) (hp : w.heap[pb]? = some (.cells #[.pointer (some ⟨f, 0, none⟩)] 103 (0, 0))) (hne : er ≠ 0) :
  Calls Tryz.prog 69 #[.pointer (some ⟨eb, 0, none⟩), .pointer (some ⟨xb, 0, none⟩), .pointer (some ⟨pb, 0, none⟩)] w (FPost w0 w f o conn vA vC true s []) := by
 have HF := Amk h
 have HS : Aside0 ((fun W => W.cell? ⟨eb, 0, none⟩ = some (.int .i64 er) ∧ W.cell? ⟨xb, 0, none⟩ = some (.int .i64 q.kind) ∧ W.cell? ⟨pb, 0, none⟩ = some (.pointer (some ⟨f, 0, none⟩)) ∧ W.cell? ⟨f, 0, none⟩ = some (.pointer (some ⟨o, 0, none⟩)) ∧ W.cell? ⟨o, 1, none⟩ = some (.bool s.up)) w.drew) := ⟨⟨(bqc he 0).trans rfl, (bqc hx 0).trans rfl, (bqc hp 0).trans rfl, h.c0, (h.cell 1).trans rfl⟩⟩
 have hd1 : (er == 0) = false := by simpa using hne
 have hd2 : decide (er = 0) = false := decide_eq_false hne
 clear h he hx hp hne
 go_enter Tryz.func69, Tryz.ntmps69
 go_upto_region 0 with (fail)
 refine wp_region_held_drew (S := (fun W => W.cell? ⟨eb, 0, none⟩ = some (.int .i64 er) ∧ W.cell? ⟨xb, 0, none⟩ = some (.int .i64 q.kind) ∧ W.cell? ⟨pb, 0, none⟩ = some (.pointer (some ⟨f, 0, none⟩)) ∧ W.cell? ⟨f, 0, none⟩ = some (.pointer (some ⟨o, 0, none⟩)) ∧ W.cell? ⟨o, 1, none⟩ = some (.bool s.up))) (by kernel_rfl) HS.out (fun hHeld => ?_)
 refine tkH 0 (.int .i64 er) hHeld ?_ ?_; (focus intro w_ hSw; (try dsimp only at hSw); go_simp; (try simp only [hSw]); (try simp [hd2])); try simp only [Act.put, Lsa, Lsz, Lss]
 refine tkH 1 (.bool false) hHeld ?_ ?_; (focus intro w_ hSw; (try dsimp only at hSw); go_simp; (try simp only [hSw]); (try simp [hd2])); try simp only [Act.put, Lsa, Lsz, Lss]
 refine tkH 2 (.bool false) hHeld ?_ ?_; (focus intro w_ hSw; (try dsimp only at hSw); go_simp; (try simp only [hSw]); (try simp [hd2])); try simp only [Act.put, Lsa, Lsz, Lss]
 refine wpAnyH_take (i := 3) (v := undef) rfl (by kernel_rfl) (by kernel_rfl) (by kernel_rfl) (fun _ _ _ h => h) (Or.inr ⟨by kernel_rfl, rfl⟩) hHeld ?_
 try simp only [Act.put, Lsa, Lsz, Lss]
 refine wpAnyH_take (i := 4) (v := undef) rfl (by kernel_rfl) (by kernel_rfl) (by kernel_rfl) (fun _ _ _ h => h) (Or.inr ⟨by kernel_rfl, rfl⟩) hHeld ?_
 try simp only [Act.put, Lsa, Lsz, Lss]
 refine wpAnyH_take (i := 5) (v := undef) rfl (by kernel_rfl) (by kernel_rfl) (by kernel_rfl) (fun _ _ _ h => h) (Or.inr ⟨by kernel_rfl, rfl⟩) hHeld ?_
 try simp only [Act.put, Lsa, Lsz, Lss]
 refine wpAnyH_take (i := 6) (v := undef) rfl (by kernel_rfl) (by kernel_rfl) (by kernel_rfl) (fun _ _ _ h => h) (Or.inr ⟨by kernel_rfl, rfl⟩) hHeld ?_
 try simp only [Act.put, Lsa, Lsz, Lss]
 refine wpAnyH_take (i := 7) (v := undef) rfl (by kernel_rfl) (by kernel_rfl) (by kernel_rfl) (fun _ _ _ h => h) (Or.inr ⟨by kernel_rfl, rfl⟩) hHeld ?_
 try simp only [Act.put, Lsa, Lsz, Lss]
 refine wpAnyH_take (i := 8) (v := undef) rfl (by kernel_rfl) (by kernel_rfl) (by kernel_rfl) (fun _ _ _ h => h) (Or.inr ⟨by kernel_rfl, rfl⟩) hHeld ?_
 try simp only [Act.put, Lsa, Lsz, Lss]
 refine wpAnyH_take (i := 9) (v := undef) rfl (by kernel_rfl) (by kernel_rfl) (by kernel_rfl) (fun _ _ _ h => h) (Or.inr ⟨by kernel_rfl, rfl⟩) hHeld ?_
 try simp only [Act.put, Lsa, Lsz, Lss]
 refine wpAnyH_take (i := 10) (v := undef) rfl (by kernel_rfl) (by kernel_rfl) (by kernel_rfl) (fun _ _ _ h => h) (Or.inr ⟨by kernel_rfl, rfl⟩) hHeld ?_
 try simp only [Act.put, Lsa, Lsz, Lss]
 refine wpAnyH_take (i := 11) (v := undef) rfl (by kernel_rfl) (by kernel_rfl) (by kernel_rfl) (fun _ _ _ h => h) (Or.inr ⟨by kernel_rfl, rfl⟩) hHeld ?_
 try simp only [Act.put, Lsa, Lsz, Lss]
 refine wpAnyH_take (i := 12) (v := undef) rfl (by kernel_rfl) (by kernel_rfl) (by kernel_rfl) (fun _ _ _ h => h) (Or.inr ⟨by kernel_rfl, rfl⟩) hHeld ?_
 try simp only [Act.put, Lsa, Lsz, Lss]
 refine wpAnyH_take (i := 13) (v := undef) rfl (by kernel_rfl) (by kernel_rfl) (by kernel_rfl) (fun _ _ _ h => h) (Or.inr ⟨by kernel_rfl, rfl⟩) hHeld ?_
 try simp only [Act.put, Lsa, Lsz, Lss]
 refine tkH 14 (.bool false) hHeld ?_ ?_; (focus intro w_ hSw; (try dsimp only at hSw); go_simp; (try simp only [hSw]); (try simp [hd2])); try simp only [Act.put, Lsa, Lsz, Lss]
 refine wpAnyH_ready (rs := [15]) (by kernel_rfl) (by simp) ?_
 refine AllReadyH.cons rfl (fun K hK => ?_) AllReadyH.nil
 go_simp
 go_wp2_with (go_at_call 70; refine Calls.mono (unlessQ_no _) ?_; rintro e2 w2 ⟨rfl, rfl⟩; exact ⟨rfl, rfl, _, _, _, HF.out.drew, (Went.refl _ _ _ _ _).drew⟩)
theorem clos69_not (w0 w : World) (f o : Nat) (s : Mq) (conn : Int) (vW vC vA : Value) (h : Fr w0 w f o s conn [] vW vC vA) (er : Int) (q : Pkt) (vN vD : Value) (eb xb pb : Nat) (he : w.heap[eb]? = some (.cells #[.int .i64 er] 24 (0, 0))) (hx : w.heap[xb]? = some (.cells (q.pk vN vD).cells 86 (0, 0))) (hp : w.heap[pb]? = some (.cells #[.pointer (some ⟨f, 0, none⟩)] 103 (0, 0))) (h0 : er = 0) (hq : decide (q.kind = 1) = s.up) :
  Calls Tryz.prog 69 #[.pointer (some ⟨eb, 0, none⟩), .pointer (some ⟨xb, 0, none⟩), .pointer (some ⟨pb, 0, none⟩)] w (FPost w0 w f o conn vA vC true s []) := by
 subst h0
 have HF := Amk h
 have HS : Aside0 ((fun W => W.cell? ⟨eb, 0, none⟩ = some (.int .i64 0) ∧ W.cell? ⟨xb, 0, none⟩ = some (.int .i64 q.kind) ∧ W.cell? ⟨pb, 0, none⟩ = some (.pointer (some ⟨f, 0, none⟩)) ∧ W.cell? ⟨f, 0, none⟩ = some (.pointer (some ⟨o, 0, none⟩)) ∧ W.cell? ⟨o, 1, none⟩ = some (.bool s.up)) w.drew) := ⟨⟨(bqc he 0).trans rfl, (bqc hx 0).trans rfl, (bqc hp 0).trans rfl, h.c0, (h.cell 1).trans rfl⟩⟩
 obtain ⟨up, hup⟩ : ∃ up, s.up = up := ⟨_, rfl⟩
 obtain ⟨kq, hkq⟩ : ∃ kq, q.kind = kq := ⟨_, rfl⟩
 rw [hup, hkq] at HS hq
 have hd1 : (kq == 1) = up := by rw [← hq]; rfl
 have hd2 : (up != up) = false := by cases up <;> rfl
 clear h he hx hp hup hq
 go_enter Tryz.func69, Tryz.ntmps69
 go_upto_region 0 with (fail)
 refine wp_region_held_drew (S := (fun W => W.cell? ⟨eb, 0, none⟩ = some (.int .i64 0) ∧ W.cell? ⟨xb, 0, none⟩ = some (.int .i64 kq) ∧ W.cell? ⟨pb, 0, none⟩ = some (.pointer (some ⟨f, 0, none⟩)) ∧ W.cell? ⟨f, 0, none⟩ = some (.pointer (some ⟨o, 0, none⟩)) ∧ W.cell? ⟨o, 1, none⟩ = some (.bool up))) (by kernel_rfl) HS.out (fun hHeld => ?_)
 refine tkH 0 (.int .i64 0) hHeld ?_ ?_; (focus intro w_ hSw; (try dsimp only at hSw); go_simp; (try simp only [hSw]); (try simp [hd2])); try simp only [Act.put, Lsa, Lsz, Lss]
 refine tkH 1 (.bool true) hHeld ?_ ?_; (focus intro w_ hSw; (try dsimp only at hSw); go_simp; (try simp only [hSw]); (try simp [hd2])); try simp only [Act.put, Lsa, Lsz, Lss]
 refine tkH 2 (.bool true) hHeld ?_ ?_; (focus intro w_ hSw; (try dsimp only at hSw); go_simp; (try simp only [hSw]); (try simp [hd2])); try simp only [Act.put, Lsa, Lsz, Lss]
 refine tkH 3 ?_ hHeld ?_ ?_; rotate_left; (focus intro w_ hSw; (try dsimp only at hSw); go_simp; (try simp only [hSw]); (try rfl)); rotate_left; try simp only [Act.put, Lsa, Lsz, Lss]
 refine tkH 4 ?_ hHeld ?_ ?_; rotate_left; (focus intro w_ hSw; (try dsimp only at hSw); go_simp; (try simp only [hSw]); (try rfl)); rotate_left; try simp only [Act.put, Lsa, Lsz, Lss]
 refine tkH 5 (.bool up) hHeld ?_ ?_; (focus intro w_ hSw; (try dsimp only at hSw); go_simp; (try simp only [hSw]); (try simp [hd1])); try simp only [Act.put, Lsa, Lsz, Lss]
 refine tkH 6 ?_ hHeld ?_ ?_; rotate_left; (focus intro w_ hSw; (try dsimp only at hSw); go_simp; (try simp only [hSw]); (try rfl)); rotate_left; try simp only [Act.put, Lsa, Lsz, Lss]
 refine tkH 7 ?_ hHeld ?_ ?_; rotate_left; (focus intro w_ hSw; (try dsimp only at hSw); go_simp; (try simp only [hSw]); (try rfl)); rotate_left; try simp only [Act.put, Lsa, Lsz, Lss]
 refine tkH 8 ?_ hHeld ?_ ?_; rotate_left; (focus intro w_ hSw; (try dsimp only at hSw); go_simp; (try simp only [hSw]); (try rfl)); rotate_left; try simp only [Act.put, Lsa, Lsz, Lss]
 refine tkH 9 ?_ hHeld ?_ ?_; rotate_left; (focus intro w_ hSw; (try dsimp only at hSw); go_simp; (try simp only [hSw]); (try rfl)); rotate_left; try simp only [Act.put, Lsa, Lsz, Lss]
 refine tkH 10 ?_ hHeld ?_ ?_; rotate_left; (focus intro w_ hSw; (try dsimp only at hSw); go_simp; (try simp only [hSw]); (try rfl)); rotate_left; try simp only [Act.put, Lsa, Lsz, Lss]
 refine tkH 11 ?_ hHeld ?_ ?_; rotate_left; (focus intro w_ hSw; (try dsimp only at hSw); go_simp; (try simp only [hSw]); (try rfl)); rotate_left; try simp only [Act.put, Lsa, Lsz, Lss]
 refine tkH 12 ?_ hHeld ?_ ?_; rotate_left; (focus intro w_ hSw; (try dsimp only at hSw); go_simp; (try simp only [hSw]); (try rfl)); rotate_left; try simp only [Act.put, Lsa, Lsz, Lss]
 refine tkH 13 (.bool false) hHeld ?_ ?_; (focus intro w_ hSw; (try dsimp only at hSw); go_simp; (try simp only [hSw]); (try simp [hd2])); try simp only [Act.put, Lsa, Lsz, Lss]
 refine tkH 14 (.bool false) hHeld ?_ ?_; (focus intro w_ hSw; (try dsimp only at hSw); go_simp; (try simp only [hSw]); (try simp [hd2])); try simp only [Act.put, Lsa, Lsz, Lss]
 refine wpAnyH_ready (rs := [15]) (by kernel_rfl) (by simp) ?_
 refine AllReadyH.cons rfl (fun K hK => ?_) AllReadyH.nil
 go_simp
 go_wp2_with (go_at_call 70; refine Calls.mono (unlessQ_no _) ?_; rintro e2 w2 ⟨rfl, rfl⟩; exact ⟨rfl, rfl, _, _, _, HF.out.drew, (Went.refl _ _ _ _ _).drew⟩)
theorem clos69_yes (w0 w : World) (f o : Nat) (s : Mq) (conn : Int) (vW vC vA : Value) (h : Fr w0 w f o s conn [] vW vC vA) (er : Int) (q : Pkt) (vN vD : Value) (eb xb pb : Nat) (he : w.heap[eb]? = some (.cells #[.int .i64 er] 24 (0, 0))) (hx : w.heap[xb]? = some (.cells (q.pk vN vD).cells 86 (0, 0))) (hp : w.heap[pb]? = some (.cells #[.pointer (some ⟨f, 0, none⟩)] 103 (0, 0))) (h0 : er = 0) (hq : decide (q.kind = 1) ≠ s.up) (hG : WI w0) (hpk : PktOk q) (hm : MqOk s) (hc0 : 0 ≤ conn) (hc1 : conn ≤ 9223372036854775807) (hN : Kd.string.R 9 w w0.heap.size (fun _ => True) vN q.names) :
  Calls Tryz.prog 69 #[.pointer (some ⟨eb, 0, none⟩), .pointer (some ⟨xb, 0, none⟩), .pointer (some ⟨pb, 0, none⟩)] w (FPost w0 w f o conn vA vC (hearF s conn q).1 (hearF s conn q).2.1 (hearF s conn q).2.2) := by
 subst h0
 have HF := Amk h
 have HS : Aside0 ((fun W => W.cell? ⟨eb, 0, none⟩ = some (.int .i64 0) ∧ W.cell? ⟨xb, 0, none⟩ = some (.int .i64 q.kind) ∧ W.cell? ⟨pb, 0, none⟩ = some (.pointer (some ⟨f, 0, none⟩)) ∧ W.cell? ⟨f, 0, none⟩ = some (.pointer (some ⟨o, 0, none⟩)) ∧ W.cell? ⟨o, 1, none⟩ = some (.bool s.up)) w.drew) := ⟨⟨(bqc he 0).trans rfl, (bqc hx 0).trans rfl, (bqc hp 0).trans rfl, h.c0, (h.cell 1).trans rfl⟩⟩
 have HX := Amk hx
 have HP := Amk hp
 have HH := Amk (hear_calls w0 w.drew f o s conn vW vC vA h.drew hG q hpk hm hc0 hc1 vN vD (Kd.R_below hN (bdr (Below.refl _ _))))
 obtain ⟨up, hup⟩ : ∃ up, s.up = up := ⟨_, rfl⟩
 obtain ⟨kq, hkq⟩ : ∃ kq, q.kind = kq := ⟨_, rfl⟩
 obtain ⟨r1, r2, r3, hr⟩ : ∃ r1 r2 r3, hearF s conn q = (r1, r2, r3) := ⟨_, _, _, rfl⟩
 rw [hr] at HH ⊢
 rw [hup, hkq] at HS hq
 have hd1 : (kq == 1) = !up := by
  cases up <;> simp at hq ⊢ <;> exact hq
 have hd2 : ((!up) != up) = true := by cases up <;> rfl
 clear h he hx hp hup hq hr hpk hm hN hkq
 generalize (q.pk vN vD).cells = cells at *
 go_enter Tryz.func69, Tryz.ntmps69
 go_upto_region 0 with (fail)
 refine wp_region_held_drew (S := (fun W => W.cell? ⟨eb, 0, none⟩ = some (.int .i64 0) ∧ W.cell? ⟨xb, 0, none⟩ = some (.int .i64 kq) ∧ W.cell? ⟨pb, 0, none⟩ = some (.pointer (some ⟨f, 0, none⟩)) ∧ W.cell? ⟨f, 0, none⟩ = some (.pointer (some ⟨o, 0, none⟩)) ∧ W.cell? ⟨o, 1, none⟩ = some (.bool up))) (by kernel_rfl) HS.out (fun hHeld => ?_)
 refine tkH 0 (.int .i64 0) hHeld ?_ ?_; (focus intro w_ hSw; (try dsimp only at hSw); go_simp; (try simp only [hSw]); (try simp [hd2])); try simp only [Act.put, Lsa, Lsz, Lss]
 refine tkH 1 (.bool true) hHeld ?_ ?_; (focus intro w_ hSw; (try dsimp only at hSw); go_simp; (try simp only [hSw]); (try simp [hd2])); try simp only [Act.put, Lsa, Lsz, Lss]
 refine tkH 2 (.bool true) hHeld ?_ ?_; (focus intro w_ hSw; (try dsimp only at hSw); go_simp; (try simp only [hSw]); (try simp [hd2])); try simp only [Act.put, Lsa, Lsz, Lss]
 refine tkH 3 ?_ hHeld ?_ ?_; rotate_left; (focus intro w_ hSw; (try dsimp only at hSw); go_simp; (try simp only [hSw]); (try rfl)); rotate_left; try simp only [Act.put, Lsa, Lsz, Lss]
 refine tkH 4 ?_ hHeld ?_ ?_; rotate_left; (focus intro w_ hSw; (try dsimp only at hSw); go_simp; (try simp only [hSw]); (try rfl)); rotate_left; try simp only [Act.put, Lsa, Lsz, Lss]
 refine tkH 5 (.bool (!up)) hHeld ?_ ?_; (focus intro w_ hSw; (try dsimp only at hSw); go_simp; (try simp only [hSw]); (try simp [hd1])); try simp only [Act.put, Lsa, Lsz, Lss]
 refine tkH 6 ?_ hHeld ?_ ?_; rotate_left; (focus intro w_ hSw; (try dsimp only at hSw); go_simp; (try simp only [hSw]); (try rfl)); rotate_left; try simp only [Act.put, Lsa, Lsz, Lss]
 refine tkH 7 ?_ hHeld ?_ ?_; rotate_left; (focus intro w_ hSw; (try dsimp only at hSw); go_simp; (try simp only [hSw]); (try rfl)); rotate_left; try simp only [Act.put, Lsa, Lsz, Lss]
 refine tkH 8 ?_ hHeld ?_ ?_; rotate_left; (focus intro w_ hSw; (try dsimp only at hSw); go_simp; (try simp only [hSw]); (try rfl)); rotate_left; try simp only [Act.put, Lsa, Lsz, Lss]
 refine tkH 9 ?_ hHeld ?_ ?_; rotate_left; (focus intro w_ hSw; (try dsimp only at hSw); go_simp; (try simp only [hSw]); (try rfl)); rotate_left; try simp only [Act.put, Lsa, Lsz, Lss]
 refine tkH 10 ?_ hHeld ?_ ?_; rotate_left; (focus intro w_ hSw; (try dsimp only at hSw); go_simp; (try simp only [hSw]); (try rfl)); rotate_left; try simp only [Act.put, Lsa, Lsz, Lss]
 refine tkH 11 ?_ hHeld ?_ ?_; rotate_left; (focus intro w_ hSw; (try dsimp only at hSw); go_simp; (try simp only [hSw]); (try rfl)); rotate_left; try simp only [Act.put, Lsa, Lsz, Lss]
 refine tkH 12 ?_ hHeld ?_ ?_; rotate_left; (focus intro w_ hSw; (try dsimp only at hSw); go_simp; (try simp only [hSw]); (try rfl)); rotate_left; try simp only [Act.put, Lsa, Lsz, Lss]
 refine tkH 13 (.bool true) hHeld ?_ ?_; (focus intro w_ hSw; (try dsimp only at hSw); go_simp; (try simp only [hSw]); (try simp [hd2])); try simp only [Act.put, Lsa, Lsz, Lss]
 refine tkH 14 (.bool true) hHeld ?_ ?_; (focus intro w_ hSw; (try dsimp only at hSw); go_simp; (try simp only [hSw]); (try simp [hd2])); try simp only [Act.put, Lsa, Lsz, Lss]
 refine wpAnyH_ready (rs := [15]) (by kernel_rfl) (by simp) ?_
 refine AllReadyH.cons rfl (fun K hK => ?_) AllReadyH.nil
 go_simp
 go_wp2_with (go_at_call 70; refine Calls.mono (unlessQ_yes _) ?_; rintro e2 w2 ⟨rfl, rfl⟩)
 (first | refine hK.out _ _ HS.out (fun hHeld => ?_) | refine hK _ _ HS.out (fun hHeld => ?_)); try simp only [Act.put, Lsa, Lsz, Lss]
 refine wpAnyH_done (by kernel_rfl) ?_ _
 clear hK K
 have HXD := Amk (blk_drew HX.out)
 have cp := (bqc (blk_drew HP.out) 0).trans (show _ = some (Value.pointer (some ⟨f, 0, none⟩)) from rfl)
 clear hHeld HS
 cases r1 with
 | false =>
  go_wp2_with (first | ((with_reducible refine gate_dst (N := 20) rfl ?_); refine wpList_load_row rfl 86 (.tmp 1) rfl xb rfl 86 cells (0, 0) _ HXD.out Tryz.underlying86 rfl (by kernel_rfl) ?_) | (go_at_call 71; refine Calls.mono HH.out ?_; rintro e w1 ⟨rfl, vW', vC', vA', hf, hk⟩; have HF1 := Amk hf; have HK1 := Amk hk; clear hf hk))
  go_end0
  exact ⟨rfl, _, _, _, HF1.out, Went.after (bdr (Below.refl _ _)) HK1.out⟩
 | true =>
  go_wp2_with (first | ((with_reducible refine gate_dst (N := 20) rfl ?_); refine wpList_load_row rfl 86 (.tmp 1) rfl xb rfl 86 cells (0, 0) _ HXD.out Tryz.underlying86 rfl (by kernel_rfl) ?_) | (go_at_call 71; refine Calls.mono HH.out ?_; rintro e w1 ⟨rfl, vW', vC', vA', hf, hk⟩; exact ⟨rfl, rfl, _, _, _, hf, Went.after (bdr (Below.refl _ _)) hk⟩))
def NQ (w : World) (r : Mq × List BAct × Bool) (e : Ending) (w' : World) : Prop := ∃ vW vC vA, e = .returned (.tuple #[.agg (mqCells r.1 vW vC), vA, .bool r.2.2]) ∧ kOp.R 64 w' w.heap.size (fun _ => True) vW r.1.will ∧ (Kd.int .i64).R 3 w' w.heap.size (fun _ => True) vC r.1.codes ∧ kAct.R 57 w' w.heap.size (fun _ => True) vA r.2.1 ∧ Below w.heap.size w w'
theorem MqIn.below {w w' : World} {s : Mq} {AW AC : Option Addr} {cW cC : Nat} (h : MqIn w s AW cW AC cC) (hb : Below w.heap.size w w') : MqIn w' s AW cW AC cC := ⟨Kd.C_below h.will hb, h.willc, Kd.C_below h.codes hb, h.codesc, h.wl, h.cl⟩
theorem Fr.new {w W : World} {o : Nat} {s : Mq} {vW vC : Value} (hb : W.heap[o]? = some (.cells (mqCells s vW vC) 45 (0, 0))) (hW : kOp.R 64 W w.heap.size (fun _ => True) vW s.will) (hC : (Kd.int .i64).R 3 W w.heap.size (fun _ => True) vC s.codes) (ho : w.heap.size ≤ o) (bel : Below w.heap.size w W) (conn : Int) :
  Fr w (W.alloc (.cells #[.pointer (some ⟨o, 0, none⟩), .int .i64 conn, .slice none 0 0] 106)) W.heap.size o s conn [] vW vC (.slice none 0 0) :=
 ⟨heap_alloc_new _ _, ⟨bka hb _, Kd.R_below hW (bal (Below.refl _ _) _), Kd.R_below hC (bal (Below.refl _ _) _), ho⟩, Kd.R_nil _ _ _ _ _, bel.size, bal bel _⟩
theorem mq_results {W : World} {r : Nat} {cs : Array Value} {v5 v6 : Value} {tmps : Array Value} (h4 : tmps.getD 4 undef = .pointer (some ⟨r, 0, none⟩)) (h5 : tmps.getD 5 undef = v5) (h6 : tmps.getD 6 undef = v6) (hb : W.heap[r]? = some (.cells cs 45 (0, 0))) (hs : cs.size = 7) :
  (results Tryz.f27 tmps).run Tryz.prog W = .ok (.tuple #[.agg cs, v5, v6]) W := by
 have h1 := run_loadVar_row (P := Tryz.prog) W r 45 45 cs (0, 0) _ hb Tryz.underlying45 rfl (by rw [hs]; kernel_rfl)
 have h4' : tmps[4]?.getD undef = .pointer (some ⟨r, 0, none⟩) := by simpa using h4
 have h5' : tmps[5]?.getD undef = v5 := by simpa using h5
 have h6' : tmps[6]?.getD undef = v6 := by simpa using h6
 simp [results, Tryz.results27, h4', h5', h6', asAddr, h1]
theorem exec_load_row {P : Program} {o : Oper} {a : Act} {w : World} (ty : TypeId) (x : Operand) (ho : o.op = .load ty x) (g : Nat) (hx : a.eval x = .pointer (some ⟨g, 0, none⟩)) (t : TypeId) (cs : Array Value) (fr : Nat × Nat) (d : TypeDesc) (hg : w.heap[g]? = some (.cells cs t fr))
  (hu : P.underlying ty = some d) (hd : (match d with | .struct _ | .array _ _ => true | _ => false) = true) (hi : (P.info? ty).map (·.size) = some cs.size) : (execOp a.eval o).run P w = .ok (.value (.agg cs)) w := by
 unfold execOp
 simp only [ho, hx, Instr.loadAt, Instr.sureAddr, Sem.run_bind, Sem.run_pure, Result.andThen_ok, run_loadVar_row w g t ty cs fr d hg hu hd hi]
def outF (s : Mq) (conn : Int) (q : Pkt) : Bool × Mq × List BAct := if decide (q.kind = 1) = s.up then (true, s, []) else hearF s conn q
theorem heardF_out (s : Mq) (conn : Int) (q : Pkt) : heardF s conn q = ((if (outF s conn q).1 = true then ended (outF s conn q).2.1 else (outF s conn q).2.1), (if (outF s conn q).1 = true then (outF s conn q).2.2 ++ [endAct] else (outF s conn q).2.2)) := by
 unfold heardF outF
 split
 ·
  rfl
 ·
  split <;> rfl
theorem clos69_out (w0 w : World) (f o : Nat) (s : Mq) (conn : Int) (vW vC vA : Value) (h : Fr w0 w f o s conn [] vW vC vA) (q : Pkt) (vN vD : Value) (eb xb pb : Nat) (he : w.heap[eb]? = some (.cells #[.int .i64 0] 24 (0, 0))) (hx : w.heap[xb]? = some (.cells (q.pk vN vD).cells 86 (0, 0))) (hp : w.heap[pb]? = some (.cells #[.pointer (some ⟨f, 0, none⟩)] 103 (0, 0))) (hG : WI w0) (hpk : PktOk q) (hm : MqOk s) (hc0 : 0 ≤ conn) (hc1 : conn ≤ 9223372036854775807) (hN : Kd.string.R 9 w w0.heap.size (fun _ => True) vN q.names) :
  Calls Tryz.prog 69 #[.pointer (some ⟨eb, 0, none⟩), .pointer (some ⟨xb, 0, none⟩), .pointer (some ⟨pb, 0, none⟩)] w (FPost w0 w f o conn vA vC (outF s conn q).1 (outF s conn q).2.1 (outF s conn q).2.2) := by
 unfold outF
 by_cases hq : decide (q.kind = 1) = s.up
 ·
  rw [if_pos hq]; exact clos69_not w0 w f o s conn vW vC vA h 0 q vN vD eb xb pb he hx hp rfl hq
 ·
  rw [if_neg hq]; exact clos69_yes w0 w f o s conn vW vC vA h 0 q vN vD eb xb pb he hx hp rfl hq hG hpk hm hc0 hc1 hN
theorem call69 (caps : Array Value) (w : World) : (callFunc 69 caps).run Tryz.prog w = .ok (.enter 69 caps) w := by kernel_rfl
theorem pk_one (q : Pkt) (A B : Option Addr) (n c m d : Nat) : ∀ x ∈ (q.pk (.slice A n c) (.slice B m d)).cells.toList, x.oneCell' = true := by simp [Pkt.pk, Pk.cells, Value.oneCell']
theorem Fr.wrote {w0 W W1 : World} {f o g t : Nat} {s : Mq} {conn : Int} {acts : List BAct} {vW vC vA : Value} {cur cs : Array Value} (h : Fr w0 W f o s conn acts vW vC vA) (hw : Wrote W W1 g cs t) (hg : w0.heap.size ≤ g) (hb : W.heap[g]? = some (.cells cur t (0, 0))) (ht : t ≠ 57 ∧ t ≠ 64 ∧ t ≠ 3 ∧ t ≠ 106 ∧ t ≠ 45) : Fr w0 W1 f o s conn acts vW vC vA := by
 have hf : f ≠ g := by rintro rfl; rw [h.fb] at hb; simp only [Option.some.injEq, Obj.cells.injEq] at hb; exact ht.2.2.2.1 hb.2.1.symm
 have ho : o ≠ g := by rintro rfl; rw [h.own.blk] at hb; simp only [Option.some.injEq, Obj.cells.injEq] at hb; exact ht.2.2.2.2 hb.2.1.symm
 refine ⟨hw.blk_ h.fb hf, ⟨hw.blk_ h.own.blk ho, R_wrote h.own.will hw hb ?_, R_wrote h.own.codes hw hb ?_, h.own.bo⟩, R_wrote h.row hw hb ?_, h.bf, hw.below h.bel h.sz hg⟩
 ·
  intro q hq; simp only [kOp, List.mem_cons, List.not_mem_nil, or_false] at hq; omega
 ·
  intro q hq; simp only [Kd.int, Kd.scalar, List.mem_cons, List.not_mem_nil, or_false] at hq; omega
 ·
  intro q hq; have : q ∈ [57, 64] := hq; simp only [List.mem_cons, List.not_mem_nil, or_false] at this; omega
theorem Fr.set1 {w0 W : World} {f o g t : Nat} {s : Mq} {conn : Int} {acts : List BAct} {vW vC vA : Value} {cur : Array Value} (h : Fr w0 W f o s conn acts vW vC vA) (hg : w0.heap.size ≤ g) (hb : W.heap[g]? = some (.cells cur t (0, 0))) (ht : t ≠ 57 ∧ t ≠ 64 ∧ t ≠ 3 ∧ t ≠ 106 ∧ t ≠ 45) (j : Nat) (v : Value) : Fr w0 (W.setCell ⟨g, j, none⟩ v) f o s conn acts vW vC vA := by
 have hf : f ≠ g := by rintro rfl; rw [h.fb] at hb; simp only [Option.some.injEq, Obj.cells.injEq] at hb; exact ht.2.2.2.1 hb.2.1.symm
 have ho : o ≠ g := by rintro rfl; rw [h.own.blk] at hb; simp only [Option.some.injEq, Obj.cells.injEq] at hb; exact ht.2.2.2.2 hb.2.1.symm
 refine ⟨blk_far h.fb hf _, ⟨blk_far h.own.blk ho _, Kd.R_set h.own.will hb ?_ j v, Kd.R_set h.own.codes hb ?_ j v, h.own.bo⟩, Kd.R_set h.row hb ?_ j v, h.bf, below_set h.bel hg⟩
 ·
  intro q hq; simp only [kOp, List.mem_cons, List.not_mem_nil, or_false] at hq; omega
 ·
  intro q hq; simp only [Kd.int, Kd.scalar, List.mem_cons, List.not_mem_nil, or_false] at hq; omega
 ·
  intro q hq; have : q ∈ [57, 64] := hq; simp only [List.mem_cons, List.not_mem_nil, or_false] at this; omega
def noP : Pkt := ⟨0, 0, 0, 0, [], [], 0, false, [], false, [], []⟩
def pkZ : Array Value := #[.int .i64 0, .int .i64 0, .int .i64 0, .int .i64 0, .string ⟨#[]⟩, .string ⟨#[]⟩, .int .i64 0, .bool false, .string ⟨#[]⟩, .bool false, .slice none 0 0, .slice none 0 0]
theorem mqnext_calls (s : Mq) (AW : Option Addr) (cW : Nat) (AC : Option Addr) (cC : Nat) (conn : Int) (w : World) (hI : MqIn w s AW cW AC cC) (hG : WI w) (hm : Good s) (hc0 : 0 ≤ conn) (hc1 : conn ≤ 9223372036854775807) :
  Calls Tryz.prog 27 #[mqAgg s AW cW AC cC, .int .i64 conn] w (NQ w (nextM s conn)) := by
 have HC : Aside0 (∀ W, Below w.heap.size w W → Calls Tryz.prog 67 #[mqAgg s AW cW AC cC] W fun e w' => ∃ vW vC, e = .returned (.agg (mqCells s vW vC)) ∧ kOp.R 64 w' W.heap.size (fun _ => True) vW s.will ∧ (Kd.int .i64).R 3 w' W.heap.size (fun _ => True) vC s.codes ∧ Below W.heap.size W w') := ⟨fun W hB => copied_calls s AW cW AC cC W (hI.below hB)⟩
 have HG := Amk hG
 have HM := Amk hm
 have HCN := Amk (And.intro hc0 hc1)
 clear hI hG hm hc0 hc1
 obtain ⟨R, hR⟩ : ∃ R, nextM s conn = R := ⟨_, rfl⟩
 have HR := Amk hR
 rw [hR]
 clear hR
 obtain ⟨⟨restl⟩, up, down, client, clean, will, codes⟩ := s
 obtain ⟨restl⟩ := restl
 simp only [mqAgg, mqCells] at *
 generalize will.length = nW at *
 generalize codes.length = nC at *
 have HBX := Amk (heap_alloc_new w (.cells #[.string ⟨restl.toArray⟩, .bool up, .bool down, .string client, .bool clean, .slice AW nW cW, .slice AC nC cC] 45))
 have HBR : Aside0 (((w.alloc (.cells #[.string ⟨restl.toArray⟩, .bool up, .bool down, .string client, .bool clean, .slice AW nW cW, .slice AC nC cC] 45)).alloc (.cells #[.string ⟨#[]⟩, .bool false, .bool false, .string ⟨#[]⟩, .bool false, .slice none 0 0, .slice none 0 0] 45)).heap[w.heap.size + 1]? = some (.cells #[.string ⟨#[]⟩, .bool false, .bool false, .string ⟨#[]⟩, .bool false, .slice none 0 0, .slice none 0 0] 45 (0, 0))) := ⟨by have := heap_alloc_new (w.alloc (.cells #[.string ⟨restl.toArray⟩, .bool up, .bool down, .string client, .bool clean, .slice AW nW cW, .slice AC nC cC] 45)) (.cells #[.string ⟨#[]⟩, .bool false, .bool false, .string ⟨#[]⟩, .bool false, .slice none 0 0, .slice none 0 0] 45); rwa [World.size_alloc] at this⟩
 have HB0 : Aside0 (Below w.heap.size w ((w.alloc (.cells #[.string ⟨restl.toArray⟩, .bool up, .bool down, .string client, .bool clean, .slice AW nW cW, .slice AC nC cC] 45)).alloc (.cells #[.string ⟨#[]⟩, .bool false, .bool false, .string ⟨#[]⟩, .bool false, .slice none 0 0, .slice none 0 0] 45))) := ⟨bal (bal (Below.refl _ _) _) _⟩
 go_enter Tryz.func27, Tryz.ntmps27
 go_upto_region 3 with (first
  | ((with_reducible refine gate_dst (N := 12) rfl ?_); refine wpList_load_row rfl 45 (.tmp 2) rfl w.heap.size rfl 45 (#[.string ⟨restl.toArray⟩, .bool up, .bool down, .string client, .bool clean, .slice AW nW cW, .slice AC nC cC]) (0, 0) _ (bka HBX.out _) Tryz.underlying45 rfl (by kernel_rfl) ?_)
  | (go_at_call 67; refine Calls.mono (HC.out _ HB0.out) ?_; rintro e w1 ⟨v1, v2, rfl, hr1, hr2, hb⟩; have HR1 := Amk (Kd.R_lower hr1 (base' := w.heap.size) (by simp; omega)); have HR2 := Amk (Kd.R_lower hr2 (base' := w.heap.size) (by simp; omega)); have HB1 : Aside0 (Below w.heap.size w w1) := ⟨below_then HB0.out (by simp; omega) hb⟩; have HX1 := Amk ((hb.block _ (by simp; omega)).trans (bka HBX.out _)); have HY1 := Amk ((hb.block (w.heap.size + 1) (by simp)).trans HBR.out); have HSZ1 : Aside0 (w.heap.size + 2 ≤ w1.heap.size) := ⟨Nat.le_trans (by simp) hb.size⟩; clear hr1 hr2 hb; obtain ⟨A1, n1, c1, rfl, HN1⟩ := R_parts HR1.out; obtain ⟨A2, n2, c2, rfl, HN2⟩ := R_parts HR2.out)
  | ((with_reducible refine gate_store (t := 45) (p := 7) rfl ?_); refine wpList_store_blk 45 (.tmp 7) (.tmp 13) rfl rfl rfl (g := w1.heap.size) (e := 45) (.agg #[.string ⟨restl.toArray⟩, .bool up, .bool down, .string client, .bool clean, .slice A1 n1 c1, .slice A2 n2 c2]) [.string ⟨restl.toArray⟩, .bool up, .bool down, .string client, .bool clean, .slice A1 n1 c1, .slice A2 n2 c2] rfl rfl rfl (heap_alloc_new w1 _) (by kernel_rfl) rfl (by simp [Value.oneCell']) ?_; intro W1 hw; have HW1 := Amk hw; clear hw))
 have HSZ2 := Amk HW1.out.grown.size
 have HF0 : Aside0 (Fr w _ _ w1.heap.size (⟨⟨⟨restl⟩⟩, up, down, client, clean, will, codes⟩ : Mq) conn [] (.slice A1 n1 c1) (.slice A2 n2 c2) (.slice none 0 0)) := ⟨Fr.new HW1.out.blk (R_wrote (Kd.R_below HR1.out (bal (Below.refl _ _) _)) HW1.out (heap_alloc_new w1 _) (by decide)) (R_wrote (Kd.R_below HR2.out (bal (Below.refl _ _) _)) HW1.out (heap_alloc_new w1 _) (by decide)) HB1.out.size (HW1.out.below (bal HB1.out _) (Nat.le_trans HB1.out.size (by simp)) HB1.out.size) conn⟩
 have HF := Amk (HF0.out.alloc (.cells #[.pointer (some ⟨W1.heap.size, 0, none⟩)] 103))
 have HX := Amk (bka (bka (HW1.out.blk_ (bka HX1.out (.cells #[.string ⟨#[]⟩, .bool false, .bool false, .string ⟨#[]⟩, .bool false, .slice none 0 0, .slice none 0 0] 45)) (by have := HSZ1.out; omega)) (.cells #[.pointer (some ⟨w1.heap.size, 0, none⟩), .int .i64 conn, .slice none 0 0] 106)) (.cells #[.pointer (some ⟨W1.heap.size, 0, none⟩)] 103))
 have HY := Amk (bka (bka (HW1.out.blk_ (bka HY1.out (.cells #[.string ⟨#[]⟩, .bool false, .bool false, .string ⟨#[]⟩, .bool false, .slice none 0 0, .slice none 0 0] 45)) (by have := HSZ1.out; omega)) (.cells #[.pointer (some ⟨w1.heap.size, 0, none⟩), .int .i64 conn, .slice none 0 0] 106)) (.cells #[.pointer (some ⟨W1.heap.size, 0, none⟩)] 103))
 have HP := Amk (heap_alloc_new (W1.alloc (.cells #[.pointer (some ⟨w1.heap.size, 0, none⟩), .int .i64 conn, .slice none 0 0] 106)) (.cells #[.pointer (some ⟨W1.heap.size, 0, none⟩)] 103))
 have HO : Aside0 (w.heap.size + 1 < w1.heap.size ∧ w1.heap.size < W1.heap.size) := ⟨by have := HSZ1.out; omega, by have := blt HW1.out.blk; exact this⟩
 rw [World.size_alloc] at HP
 clear HF0 HX1 HY1 HW1 HB1 HR1 HR2 HSZ1 HSZ2 HB0 HBX HBR HC
 generalize (W1.alloc (.cells #[.pointer (some ⟨w1.heap.size, 0, none⟩), .int .i64 conn, .slice none 0 0] 106)).alloc (.cells #[.pointer (some ⟨W1.heap.size, 0, none⟩)] 103) = W3 at *
 generalize W1.heap.size = f at *
 generalize w1.heap.size = o at *
 cases down with
 | true =>
  obtain rfl : R = ({ (⟨⟨⟨restl⟩⟩, up, true, client, clean, will, codes⟩ : Mq) with rest := ⟨#[]⟩ }, [], false) := by rw [← HR.out]; exact nextM_down conn rfl
  have cd := (bqc HX.out 2).trans (show _ = some (Value.bool true) from rfl)
  have zo := HF.out.zo 0
  have co := (HF.out.cell 0).trans (show _ = some (Value.string ⟨⟨restl⟩⟩) from rfl)
  have HF5 := Amk (HF.out.setO (s' := { (⟨⟨⟨restl⟩⟩, up, true, client, clean, will, codes⟩ : Mq) with rest := ⟨#[]⟩ }) 0 (.string ⟨#[]⟩) rfl HF.out.own.will HF.out.own.codes)
  have HY5 := Amk (blk_far HY.out (show w.heap.size + 1 ≠ (⟨o, 0, none⟩ : Addr).block by have := HO.out; simp only; omega) (.string ⟨#[]⟩))
  go_wp2_with (first
   | ((with_reducible refine gate_dst (N := 20) rfl ?_); refine wpList_load_row rfl 45 (.tmp 7) rfl o rfl 45 (#[.string ⟨#[]⟩, .bool up, .bool true, .string client, .bool clean, .slice A1 n1 c1, .slice A2 n2 c2]) (0, 0) _ HF5.out.own.blk Tryz.underlying45 rfl (by kernel_rfl) ?_)
   | ((with_reducible refine gate_store (t := 45) (p := 4) rfl ?_); refine wpList_store_blk 45 (.tmp 4) (.tmp 20) rfl rfl rfl (g := w.heap.size + 1) (e := 45) (.agg #[.string ⟨#[]⟩, .bool up, .bool true, .string client, .bool clean, .slice A1 n1 c1, .slice A2 n2 c2]) [.string ⟨#[]⟩, .bool up, .bool true, .string client, .bool clean, .slice A1 n1 c1, .slice A2 n2 c2] rfl rfl rfl HY5.out (by kernel_rfl) rfl (by simp [Value.oneCell']) ?_; intro W6 hw; have HW6 := Amk hw; clear hw))
  refine bodyPost_ret (mq_results rfl rfl rfl HW6.out.blk rfl) rfl ?_
  exact ⟨_, _, _, rfl, R_wrote HF5.out.own.will HW6.out HY5.out (by decide), R_wrote HF5.out.own.codes HW6.out HY5.out (by decide), Kd.R_nil _ _ _ _ _, HW6.out.below HF5.out.bel HF5.out.sz (Nat.le_succ _)⟩
 | false =>
  have cd := (bqc HX.out 2).trans (show _ = some (Value.bool false) from rfl)
  have cr := (bqc HX.out 0).trans (show _ = some (Value.string ⟨⟨restl⟩⟩) from rfl)
  have HNX := Amk (next_calls restl W3)
  have hs := size_l restl
  obtain ⟨N, hN⟩ : ∃ N, nextF restl = N := ⟨_, rfl⟩
  have HNN := Amk hN
  rw [hN] at HNX
  clear hN
  cases N with
  | more =>
   obtain rfl : R = ((⟨⟨⟨restl⟩⟩, up, false, client, clean, will, codes⟩ : Mq), [], false) := by rw [← HR.out]; unfold nextM; rw [if_neg (by simp), show nextF ((⟨⟨⟨restl⟩⟩, up, false, client, clean, will, codes⟩ : Mq)).rest.data.toList = .more from HNN.out]
   go_wp2_with (first
    | (go_at_call 43; refine Calls.mono HNX.out ?_; rintro e w4 ⟨rfl, hb⟩; have HF4 := Amk (((HF.out.below hb).alloc (.cells pkZ 86)).alloc (.cells #[.int .i64 0] 24)); have HX4 := Amk (bka (heap_alloc_new w4 (.cells pkZ 86)) (.cells #[.int .i64 0] 24)); have HY4 := Amk (bka (bka ((hb.block _ (blt HY.out)).trans HY.out) (.cells pkZ 86)) (.cells #[.int .i64 0] 24)); have HE4 : Aside0 (((w4.alloc (.cells pkZ 86)).alloc (.cells #[.int .i64 0] 24)).heap[w4.heap.size + 1]? = some (.cells #[.int .i64 0] 24 (0, 0))) := ⟨by have := heap_alloc_new (w4.alloc (.cells pkZ 86)) (.cells #[.int .i64 0] 24); rwa [World.size_alloc] at this⟩; have hy4 : w.heap.size + 1 < w4.heap.size := Nat.lt_of_lt_of_le (blt HY.out) hb.size; have hb4 : w.heap.size ≤ w4.heap.size := Nat.le_trans HF.out.sz hb.size; clear hb)
    | ((with_reducible refine gate_store (t := 86) (p := 9) rfl ?_); refine wpList_store_blk 86 (.tmp 9) (.tmp 25) rfl rfl rfl (g := w4.heap.size) (e := 86) (.agg pkZ) pkZ.toList rfl rfl rfl HX4.out (by kernel_rfl) rfl (by simp [pkZ, Value.oneCell']) ?_; intro W4 hw; have HW4 := Amk hw; have HE5 := Amk (hw.blk_ HE4.out (by omega)); have ze5 := blk_frozen HE5.out 0; have ce5 := (bqc HE5.out 0).trans (show _ = some (Value.int .i64 0) from rfl); have HYx := Amk (hw.blk_ HY4.out (by have := hy4; omega)); have HFx := Amk (HF4.out.wrote hw (by have := HF4.out.sz; have := hb4; omega) HX4.out (by decide)); have HF5 := Amk (HFx.out.set1 (by have := hb4; omega) HE5.out (by decide) 0 (.int .i64 41)); have HY5 := Amk (blk_far HYx.out (show w.heap.size + 1 ≠ (⟨w4.heap.size + 1, 0, none⟩ : Addr).block by have := hy4; simp only; omega) (.int .i64 41)); clear hw)
    | ((with_reducible refine gate_dst (N := 30) rfl ?_); refine wpList_load_row rfl 45 (.tmp 7) rfl o rfl 45 (#[.string ⟨⟨restl⟩⟩, .bool up, .bool false, .string client, .bool clean, .slice A1 n1 c1, .slice A2 n2 c2]) (0, 0) _ HF5.out.own.blk Tryz.underlying45 rfl (by kernel_rfl) ?_)
    | ((with_reducible refine gate_store (t := 45) (p := 4) rfl ?_); refine wpList_store_blk 45 (.tmp 4) (.tmp 30) rfl rfl rfl (g := w.heap.size + 1) (e := 45) (.agg #[.string ⟨⟨restl⟩⟩, .bool up, .bool false, .string client, .bool clean, .slice A1 n1 c1, .slice A2 n2 c2]) [.string ⟨⟨restl⟩⟩, .bool up, .bool false, .string client, .bool clean, .slice A1 n1 c1, .slice A2 n2 c2] rfl rfl rfl HY5.out (by kernel_rfl) rfl (by simp [Value.oneCell']) ?_; intro W6 hw; have HW6 := Amk hw; clear hw))
   refine bodyPost_ret (mq_results rfl rfl rfl HW6.out.blk rfl) rfl ?_
   exact ⟨_, _, _, rfl, R_wrote HF5.out.own.will HW6.out HY5.out (by decide), R_wrote HF5.out.own.codes HW6.out HY5.out (by decide), Kd.R_nil _ _ _ _ _, HW6.out.below HF5.out.bel HF5.out.sz (Nat.le_succ _)⟩
  | bad =>
   have HR' : Aside0 (R = (ended (⟨⟨⟨restl⟩⟩, up, false, client, clean, will, codes⟩ : Mq), [endAct], true)) := ⟨by rw [← HR.out]; unfold nextM; rw [if_neg (by simp), show nextF ((⟨⟨⟨restl⟩⟩, up, false, client, clean, will, codes⟩ : Mq)).rest.data.toList = .bad from HNN.out]⟩
   have hx9 : (⟨restl.toArray⟩ : ByteArray).extract 0 restl.length = ⟨restl.toArray⟩ := (by first | exact drop_ext restl 0 | (have := drop_ext restl 0; simp at this; first | exact this | simp))
   go_upto_region 10 with (first
    | (go_at_call 43; refine Calls.mono HNX.out ?_; rintro e w4 ⟨rfl, hb⟩; have HF4 := Amk (((HF.out.below hb).alloc (.cells pkZ 86)).alloc (.cells #[.int .i64 0] 24)); have HX4 := Amk (bka (heap_alloc_new w4 (.cells pkZ 86)) (.cells #[.int .i64 0] 24)); have HY4 := Amk (bka (bka ((hb.block _ (blt HY.out)).trans HY.out) (.cells pkZ 86)) (.cells #[.int .i64 0] 24)); have HP4 := Amk (bka (bka ((hb.block _ (blt HP.out)).trans HP.out) (.cells pkZ 86)) (.cells #[.int .i64 0] 24)); have HQ4 := Amk (bka (bka ((hb.block _ (blt HX.out)).trans HX.out) (.cells pkZ 86)) (.cells #[.int .i64 0] 24)); have HE4 : Aside0 (((w4.alloc (.cells pkZ 86)).alloc (.cells #[.int .i64 0] 24)).heap[w4.heap.size + 1]? = some (.cells #[.int .i64 0] 24 (0, 0))) := ⟨by have := heap_alloc_new (w4.alloc (.cells pkZ 86)) (.cells #[.int .i64 0] 24); rwa [World.size_alloc] at this⟩; have hp4 : f + 1 < w4.heap.size := Nat.lt_of_lt_of_le (blt HP.out) hb.size; clear hb)
    | ((with_reducible refine gate_store (t := 86) (p := 9) rfl ?_); refine wpList_store_blk 86 (.tmp 9) (.tmp 25) rfl rfl rfl (g := w4.heap.size) (e := 86) (.agg pkZ) pkZ.toList rfl rfl rfl HX4.out (by kernel_rfl) rfl (by simp [pkZ, Value.oneCell']) ?_; intro W4 hw; have HE5 := Amk (hw.blk_ HE4.out (by omega)); have ze5 := blk_frozen HE5.out 0; have ce5 := (bqc HE5.out 0).trans (show _ = some (Value.int .i64 0) from rfl); have hO := HO.out; have HYx := Amk (hw.blk_ HY4.out (by omega)); have HPx := Amk (hw.blk_ HP4.out (by omega)); have HQx := Amk (hw.blk_ HQ4.out (by omega)); have HFx := Amk (HF4.out.wrote hw (by omega) HX4.out (by decide)); have HF5 := Amk (HFx.out.set1 (by omega) HE5.out (by decide) 0 (.int .i64 40)); have HY5 := Amk (blk_far HYx.out (show w.heap.size + 1 ≠ (⟨w4.heap.size + 1, 0, none⟩ : Addr).block by simp only; omega) (.int .i64 40)); have HP5 := Amk (blk_far HPx.out (show f + 1 ≠ (⟨w4.heap.size + 1, 0, none⟩ : Addr).block by simp only; omega) (.int .i64 40)); have HQ5 := Amk (blk_far HQx.out (show w.heap.size ≠ (⟨w4.heap.size + 1, 0, none⟩ : Addr).block by simp only; omega) (.int .i64 40)); have HX5 := Amk (blk_far hw.blk (show w4.heap.size ≠ (⟨w4.heap.size + 1, 0, none⟩ : Addr).block by simp only; omega) (.int .i64 40)); have HE6 := Amk (blk_set HE5.out 0 (.int .i64 40));  have cr5 := (bqc HQ5.out 0).trans (show _ = some (Value.string ⟨⟨restl⟩⟩) from rfl); have cx5 := (bqc HE6.out 0).trans (show _ = some (Value.int .i64 40) from rfl); have zo5 := HF5.out.zo 0; have co5 := (HF5.out.cell 0).trans (show _ = some (Value.string ⟨⟨restl⟩⟩) from rfl); clear hw hO))
   have hO := HO.out
   have HF6 := Amk (HF5.out.setO (s' := { (⟨⟨⟨restl⟩⟩, up, false, client, clean, will, codes⟩ : Mq) with rest := ⟨restl.toArray⟩ }) 0 (.string ⟨restl.toArray⟩) rfl HF5.out.own.will HF5.out.own.codes)
   have HY6 := Amk (blk_far HY5.out (show w.heap.size + 1 ≠ (⟨o, 0, none⟩ : Addr).block by simp only; omega) (.string ⟨restl.toArray⟩))
   have HP6 := Amk (blk_far HP5.out (show f + 1 ≠ (⟨o, 0, none⟩ : Addr).block by simp only; omega) (.string ⟨restl.toArray⟩))
   have HX6 := Amk (blk_far HX5.out (show w4.heap.size ≠ (⟨o, 0, none⟩ : Addr).block by simp only; omega) (.string ⟨restl.toArray⟩))
   have HE7 := Amk (blk_far HE6.out (show w4.heap.size + 1 ≠ (⟨o, 0, none⟩ : Addr).block by simp only; omega) (.string ⟨restl.toArray⟩))
   obtain ⟨s9, a9, hs9, ha9⟩ : ∃ s9 a9, s9 = ended ({ (⟨⟨⟨restl⟩⟩, up, false, client, clean, will, codes⟩ : Mq) with rest := ⟨restl.toArray⟩ } : Mq) ∧ a9 = [endAct] := ⟨_, _, rfl, rfl⟩
   have HGD : Aside0 (Calls Tryz.prog 68 #[.pointer (some ⟨f, 0, none⟩), .func (.func 69) #[] #[.pointer (some ⟨w4.heap.size + 1, 0, none⟩), .pointer (some ⟨w4.heap.size, 0, none⟩), .pointer (some ⟨f + 1, 0, none⟩)]] _ (FPost w _ f o conn (.slice none 0 0) (.slice A2 n2 c2) false s9 a9)) := ⟨by
    have h := guard_calls 69 f o #[.pointer (some ⟨w4.heap.size + 1, 0, none⟩), .pointer (some ⟨w4.heap.size, 0, none⟩), .pointer (some ⟨f + 1, 0, none⟩)] w _ ({ (⟨⟨⟨restl⟩⟩, up, false, client, clean, will, codes⟩ : Mq) with rest := ⟨restl.toArray⟩ } : Mq) ({ (⟨⟨⟨restl⟩⟩, up, false, client, clean, will, codes⟩ : Mq) with rest := ⟨restl.toArray⟩ } : Mq) conn [] [] _ _ _ true (call69 _) HF6.out (by simp) (fun W hB => clos69_bad w W f o _ conn _ _ _ (HF6.out.below hB) 40 noP (.slice none 0 0) (.slice none 0 0) _ _ _ ((hB.block _ (blt HE7.out)).trans HE7.out) ((hB.block _ (blt HX6.out)).trans HX6.out) ((hB.block _ (blt HP6.out)).trans HP6.out) (by decide))
    rw [if_pos rfl, if_pos rfl] at h
    rw [hs9, ha9]
    exact h⟩
   have HR2 : Aside0 (R = (s9, a9, true)) := ⟨by rw [HR'.out, hs9, ha9]⟩
   clear hs9 ha9 HR' HR HNX HNN
   have hmf : ∀ (fn : Fn) (first cap : Array Value) (w : World), (Instr.makeFunc fn first cap).run Tryz.prog w = .ok (.func fn first cap) w := fun _ _ _ _ => rfl
   have cp6 := (bqc HP6.out 0).trans (show _ = some (Value.pointer (some ⟨f, 0, none⟩)) from rfl)
   obtain ⟨W6, hW6⟩ : ∃ W6, (W4.setCell ⟨w4.heap.size + 1, 0, none⟩ (.int .i64 40)).setCell ⟨o, 0, none⟩ (.string ⟨restl.toArray⟩) = W6 := ⟨_, rfl⟩
   rw [hW6] at HGD HF6 HY6 HP6 cp6 ⊢
   clear hW6 HX6 HE7 HX5 HE5 HE6 HP5 HY5 HF5 HPx HYx HFx HQx HQ5 HF4 HX4 HY4 HP4 HQ4 HE4 ze5 ce5 cr5 cx5 zo5 co5 cd cr hs hx9
   go_upto_region 11 with (go_at_call 68; refine Calls.mono HGD.out ?_; rintro e w7 ⟨rfl, vW', vC', vA', hf, hk⟩; have HF7 := Amk hf; have HY7 := Amk (blk_kept HY6.out hk.kept (by rintro (e | e | e | e); (omega); (omega); (cases e); exact absurd e (Kd.R_ne HF6.out.own.codes HY6.out (by decide)))); have HP7 := Amk (blk_kept HP6.out hk.kept (by rintro (e | e | e | e); (omega); (omega); (cases e); exact absurd e (Kd.R_ne HF6.out.own.codes HP6.out (by decide)))); clear hf hk; obtain ⟨A7, n7, c7, rfl, _⟩ := R_parts HF7.out.own.will; obtain ⟨A8, n8, c8, rfl, _⟩ := R_parts HF7.out.own.codes)
   have HS7 : Aside0 ((fun W => W.heap[o]? = some (.cells (mqCells s9 (.slice A7 n7 c7) (.slice A8 n8 c8)) 45 (0, 0)) ∧ W.cell? ⟨f + 1, 0, none⟩ = some (.pointer (some ⟨f, 0, none⟩)) ∧ W.cell? ⟨f, 2, none⟩ = some vA') w7.drew) := ⟨⟨HF7.out.own.blk, (bqc HP7.out 0).trans rfl, HF7.out.c2⟩⟩
   try simp only [Lga, Lgz, Lgs, Act.put, Lsa, Lsz, Lss]
   refine wp_region_held_drew (S := (fun W => W.heap[o]? = some (.cells (mqCells s9 (.slice A7 n7 c7) (.slice A8 n8 c8)) 45 (0, 0)) ∧ W.cell? ⟨f + 1, 0, none⟩ = some (.pointer (some ⟨f, 0, none⟩)) ∧ W.cell? ⟨f, 2, none⟩ = some vA')) (by kernel_rfl) HS7.out (fun hHeld => ?_)
   refine tkH 0 (.agg (mqCells s9 (.slice A7 n7 c7) (.slice A8 n8 c8))) hHeld ?_ ?_; (focus intro w_ hSw; exact exec_load_row 45 (.tmp 7) rfl o rfl 45 _ (0, 0) _ hSw.1 Tryz.underlying45 rfl (by kernel_rfl)); try simp only [Lga, Lgz, Lgs, Act.put, Lsa, Lsz, Lss]
   refine tkH 1 ?_ hHeld ?_ ?_; rotate_left; (focus intro w_ hSw; (try dsimp only at hSw); go_simp; (try simp only [hSw]); (try rfl)); rotate_left; try simp only [Lga, Lgz, Lgs, Act.put, Lsa, Lsz, Lss]
   refine tkH 2 ?_ hHeld ?_ ?_; rotate_left; (focus intro w_ hSw; (try dsimp only at hSw); go_simp; (try simp only [hSw]); (try rfl)); rotate_left; try simp only [Lga, Lgz, Lgs, Act.put, Lsa, Lsz, Lss]
   refine tkH 3 ?_ hHeld ?_ ?_; rotate_left; (focus intro w_ hSw; (try dsimp only at hSw); go_simp; (try simp only [hSw]); (try rfl)); rotate_left; try simp only [Lga, Lgz, Lgs, Act.put, Lsa, Lsz, Lss]
   refine tkH 4 ?_ hHeld ?_ ?_; rotate_left; (focus intro w_ hSw; (try dsimp only at hSw); go_simp; (try simp only [hSw]); (try rfl)); rotate_left; try simp only [Lga, Lgz, Lgs, Act.put, Lsa, Lsz, Lss]
   refine wpAnyH_ready (rs := [5]) (by kernel_rfl) (by simp) ?_
   refine AllReadyH.cons rfl (fun K hK => ?_) AllReadyH.nil
   rw [if_pos (by kernel_rfl)]
   simp only [Lga, Lgz, Lgs]
   refine wp_store_blk 45 (.tmp 4) (.tmp 39) (by kernel_rfl) (by kernel_rfl) (g := w.heap.size + 1) (e := 45) (.agg (mqCells s9 (.slice A7 n7 c7) (.slice A8 n8 c8))) (mqCells s9 (.slice A7 n7 c7) (.slice A8 n8 c8)).toList (by kernel_rfl) (by kernel_rfl) (by kernel_rfl) (blk_drew HY7.out) (by kernel_rfl) rfl (by simp [mqCells, Value.oneCell']) (fun W1 HW => ?_)
   have HW1 := Amk HW
   clear HW
   (first | refine hK.out _ _ (And.intro (HW1.out.blk_ HF7.out.drew.own.blk (by omega)) (And.intro ((bqc (HW1.out.blk_ (blk_drew HP7.out) (by omega)) 0).trans rfl) ((bqc (HW1.out.blk_ HF7.out.drew.fb (by omega)) 2).trans rfl))) (fun hHeld => ?_) | refine hK _ _ (And.intro (HW1.out.blk_ HF7.out.drew.own.blk (by omega)) (And.intro ((bqc (HW1.out.blk_ (blk_drew HP7.out) (by omega)) 0).trans rfl) ((bqc (HW1.out.blk_ HF7.out.drew.fb (by omega)) 2).trans rfl))) (fun hHeld => ?_)); try simp only [Lga, Lgz, Lgs, Act.put, Lsa, Lsz, Lss]
   refine tkH 6 ?_ hHeld ?_ ?_; rotate_left; (focus intro w_ hSw; (try dsimp only at hSw); go_simp; (try simp only [hSw]); (try rfl)); rotate_left; try simp only [Lga, Lgz, Lgs, Act.put, Lsa, Lsz, Lss]
   refine tkH 7 ?_ hHeld ?_ ?_; rotate_left; (focus intro w_ hSw; (try dsimp only at hSw); go_simp; (try simp only [hSw]); (try rfl)); rotate_left; try simp only [Lga, Lgz, Lgs, Act.put, Lsa, Lsz, Lss]
   refine wpAnyH_done (by kernel_rfl) ?_ _
   clear hK K
   obtain rfl : R = (s9, a9, true) := HR2.out
   go_wp2_with fail
   refine bodyPost_ret (mq_results rfl rfl rfl HW1.out.blk rfl) rfl ?_
   exact ⟨_, _, _, rfl, R_wrote HF7.out.drew.own.will HW1.out (blk_drew HY7.out) (by decide), R_wrote HF7.out.drew.own.codes HW1.out (blk_drew HY7.out) (by decide), R_wrote HF7.out.drew.row HW1.out (blk_drew HY7.out) (by decide), HW1.out.below HF7.out.drew.bel HF7.out.drew.sz (Nat.le_succ _)⟩
  | ok q n =>
   have hnl := (nextF_ok [] (show nextF restl = .ok q n from HNN.out)).2.2
   have HR' : Aside0 (R = ((heardF { (⟨⟨⟨restl⟩⟩, up, false, client, clean, will, codes⟩ : Mq) with rest := ⟨(restl.drop n).toArray⟩ } conn q).1, (heardF { (⟨⟨⟨restl⟩⟩, up, false, client, clean, will, codes⟩ : Mq) with rest := ⟨(restl.drop n).toArray⟩ } conn q).2, true)) := ⟨by rw [← HR.out]; unfold nextM; rw [if_neg (by simp), show nextF ((⟨⟨⟨restl⟩⟩, up, false, client, clean, will, codes⟩ : Mq)).rest.data.toList = .ok q n from HNN.out]⟩
   have hx9 : (⟨restl.toArray⟩ : ByteArray).extract n restl.length = ⟨(restl.drop n).toArray⟩ := drop_ext restl n
   go_upto_region 10 with (first
    | (go_at_call 43; refine Calls.mono HNX.out ?_; rintro e w4 ⟨vN, vD, rfl, hrn, hrc, hb⟩; obtain ⟨AN, nN, cN, rfl, _⟩ := R_parts hrn; obtain ⟨AD, nD, cD, rfl, _⟩ := R_parts hrc; have HRN4 := Amk (Kd.R_below (Kd.R_below (Kd.R_lower hrn HF.out.sz) (bal (Below.refl _ _) (.cells pkZ 86))) (bal (Below.refl _ _) (.cells #[.int .i64 0] 24))); clear hrn hrc; have HF4 := Amk (((HF.out.below hb).alloc (.cells pkZ 86)).alloc (.cells #[.int .i64 0] 24)); have HX4 := Amk (bka (heap_alloc_new w4 (.cells pkZ 86)) (.cells #[.int .i64 0] 24)); have HY4 := Amk (bka (bka ((hb.block _ (blt HY.out)).trans HY.out) (.cells pkZ 86)) (.cells #[.int .i64 0] 24)); have HP4 := Amk (bka (bka ((hb.block _ (blt HP.out)).trans HP.out) (.cells pkZ 86)) (.cells #[.int .i64 0] 24)); have HQ4 := Amk (bka (bka ((hb.block _ (blt HX.out)).trans HX.out) (.cells pkZ 86)) (.cells #[.int .i64 0] 24)); have HE4 : Aside0 (((w4.alloc (.cells pkZ 86)).alloc (.cells #[.int .i64 0] 24)).heap[w4.heap.size + 1]? = some (.cells #[.int .i64 0] 24 (0, 0))) := ⟨by have := heap_alloc_new (w4.alloc (.cells pkZ 86)) (.cells #[.int .i64 0] 24); rwa [World.size_alloc] at this⟩; have hp4 : f + 1 < w4.heap.size := Nat.lt_of_lt_of_le (blt HP.out) hb.size; clear hb)
    | ((with_reducible refine gate_store (t := 86) (p := 9) rfl ?_); refine wpList_store_blk 86 (.tmp 9) (.tmp 25) rfl rfl rfl (g := w4.heap.size) (e := 86) (.agg (q.pk (.slice AN nN cN) (.slice AD nD cD)).cells) (q.pk (.slice AN nN cN) (.slice AD nD cD)).cells.toList rfl rfl rfl HX4.out (by kernel_rfl) rfl (pk_one q _ _ _ _ _ _) ?_; intro W4 hw; have HE5 := Amk (hw.blk_ HE4.out (by omega)); have ze5 := blk_frozen HE5.out 0; have ce5 := (bqc HE5.out 0).trans (show _ = some (Value.int .i64 0) from rfl); have hO := HO.out; have HYx := Amk (hw.blk_ HY4.out (by omega)); have HPx := Amk (hw.blk_ HP4.out (by omega)); have HQx := Amk (hw.blk_ HQ4.out (by omega)); have HFx := Amk (HF4.out.wrote hw (by omega) HX4.out (by decide)); have HF5 := Amk (HFx.out.set1 (by omega) HE5.out (by decide) 0 (.int .i64 0)); have HY5 := Amk (blk_far HYx.out (show w.heap.size + 1 ≠ (⟨w4.heap.size + 1, 0, none⟩ : Addr).block by simp only; omega) (.int .i64 0)); have HP5 := Amk (blk_far HPx.out (show f + 1 ≠ (⟨w4.heap.size + 1, 0, none⟩ : Addr).block by simp only; omega) (.int .i64 0)); have HQ5 := Amk (blk_far HQx.out (show w.heap.size ≠ (⟨w4.heap.size + 1, 0, none⟩ : Addr).block by simp only; omega) (.int .i64 0)); have HX5 := Amk (blk_far hw.blk (show w4.heap.size ≠ (⟨w4.heap.size + 1, 0, none⟩ : Addr).block by simp only; omega) (.int .i64 0)); have HE6 := Amk (blk_set HE5.out 0 (.int .i64 0)); have HRN5 := Amk (Kd.R_set (R_wrote HRN4.out hw HX4.out (by decide)) HE5.out (by decide) 0 (.int .i64 0));  have cr5 := (bqc HQ5.out 0).trans (show _ = some (Value.string ⟨⟨restl⟩⟩) from rfl); have cx5 := (bqc HE6.out 0).trans (show _ = some (Value.int .i64 0) from rfl); have zo5 := HF5.out.zo 0; have co5 := (HF5.out.cell 0).trans (show _ = some (Value.string ⟨⟨restl⟩⟩) from rfl); clear hw hO))
   have hO := HO.out
   have HF6 := Amk (HF5.out.setO (s' := { (⟨⟨⟨restl⟩⟩, up, false, client, clean, will, codes⟩ : Mq) with rest := ⟨(restl.drop n).toArray⟩ }) 0 (.string ⟨(restl.drop n).toArray⟩) rfl HF5.out.own.will HF5.out.own.codes)
   have HY6 := Amk (blk_far HY5.out (show w.heap.size + 1 ≠ (⟨o, 0, none⟩ : Addr).block by simp only; omega) (.string ⟨(restl.drop n).toArray⟩))
   have HP6 := Amk (blk_far HP5.out (show f + 1 ≠ (⟨o, 0, none⟩ : Addr).block by simp only; omega) (.string ⟨(restl.drop n).toArray⟩))
   have HX6 := Amk (blk_far HX5.out (show w4.heap.size ≠ (⟨o, 0, none⟩ : Addr).block by simp only; omega) (.string ⟨(restl.drop n).toArray⟩))
   have HE7 := Amk (blk_far HE6.out (show w4.heap.size + 1 ≠ (⟨o, 0, none⟩ : Addr).block by simp only; omega) (.string ⟨(restl.drop n).toArray⟩))
   have HRN6 := Amk (Kd.R_set HRN5.out HF5.out.own.blk (by decide) 0 (.string ⟨(restl.drop n).toArray⟩))
   obtain ⟨s9, a9, h9⟩ : ∃ s9 a9, heardF ({ (⟨⟨⟨restl⟩⟩, up, false, client, clean, will, codes⟩ : Mq) with rest := ⟨(restl.drop n).toArray⟩ } : Mq) conn q = (s9, a9) := ⟨_, _, rfl⟩
   have hpk := nextF_pkt (show nextF restl = .ok q n from HNN.out)
   have hm1 : MqOk ({ (⟨⟨⟨restl⟩⟩, up, false, client, clean, will, codes⟩ : Mq) with rest := ⟨(restl.drop n).toArray⟩ } : Mq) := ⟨HM.out.1.will, HM.out.1.codes, HM.out.1.each, HM.out.1.client⟩
   have HGD : Aside0 (Calls Tryz.prog 68 #[.pointer (some ⟨f, 0, none⟩), .func (.func 69) #[] #[.pointer (some ⟨w4.heap.size + 1, 0, none⟩), .pointer (some ⟨w4.heap.size, 0, none⟩), .pointer (some ⟨f + 1, 0, none⟩)]] _ (FPost w _ f o conn (.slice none 0 0) (.slice A2 n2 c2) false s9 a9)) := ⟨by
    have h := guard_calls 69 f o #[.pointer (some ⟨w4.heap.size + 1, 0, none⟩), .pointer (some ⟨w4.heap.size, 0, none⟩), .pointer (some ⟨f + 1, 0, none⟩)] w _ ({ (⟨⟨⟨restl⟩⟩, up, false, client, clean, will, codes⟩ : Mq) with rest := ⟨(restl.drop n).toArray⟩ } : Mq) (outF ({ (⟨⟨⟨restl⟩⟩, up, false, client, clean, will, codes⟩ : Mq) with rest := ⟨(restl.drop n).toArray⟩ } : Mq) conn q).2.1 conn [] (outF ({ (⟨⟨⟨restl⟩⟩, up, false, client, clean, will, codes⟩ : Mq) with rest := ⟨(restl.drop n).toArray⟩ } : Mq) conn q).2.2 _ _ _ (outF ({ (⟨⟨⟨restl⟩⟩, up, false, client, clean, will, codes⟩ : Mq) with rest := ⟨(restl.drop n).toArray⟩ } : Mq) conn q).1 (call69 _) HF6.out
     (by unfold outF; split; (simp); exact Nat.le_trans (hearF_ok hm1 (HM.out.2 rfl) hpk).2.2.2.1 (by decide))
     (fun W hB => clos69_out w W f o _ conn _ _ _ (HF6.out.below hB) q _ _ _ _ _ ((hB.block _ (blt HE7.out)).trans HE7.out) ((hB.block _ (blt HX6.out)).trans HX6.out) ((hB.block _ (blt HP6.out)).trans HP6.out) HG.out hpk hm1 HCN.out.1 HCN.out.2 (Kd.R_below HRN6.out hB))
    have e := heardF_out ({ (⟨⟨⟨restl⟩⟩, up, false, client, clean, will, codes⟩ : Mq) with rest := ⟨(restl.drop n).toArray⟩ } : Mq) conn q
    rw [h9] at e
    simp only [Prod.mk.injEq] at e
    rw [← e.1, ← e.2] at h
    exact h⟩
   have HR2 : Aside0 (R = (s9, a9, true)) := ⟨by rw [HR'.out, h9]⟩
   clear h9 HR' HR HNX HNN hpk hm1 HRN4 HRN5 HRN6
   have hmf : ∀ (fn : Fn) (first cap : Array Value) (w : World), (Instr.makeFunc fn first cap).run Tryz.prog w = .ok (.func fn first cap) w := fun _ _ _ _ => rfl
   have cp6 := (bqc HP6.out 0).trans (show _ = some (Value.pointer (some ⟨f, 0, none⟩)) from rfl)
   obtain ⟨W6, hW6⟩ : ∃ W6, (W4.setCell ⟨w4.heap.size + 1, 0, none⟩ (.int .i64 0)).setCell ⟨o, 0, none⟩ (.string ⟨(restl.drop n).toArray⟩) = W6 := ⟨_, rfl⟩
   rw [hW6] at HGD HF6 HY6 HP6 cp6 ⊢
   clear hW6 HX6 HE7 HX5 HE5 HE6 HP5 HY5 HF5 HPx HYx HFx HQx HQ5 HF4 HX4 HY4 HP4 HQ4 HE4 ze5 ce5 cr5 cx5 zo5 co5 cd cr hs hx9
   go_upto_region 11 with (go_at_call 68; refine Calls.mono HGD.out ?_; rintro e w7 ⟨rfl, vW', vC', vA', hf, hk⟩; have HF7 := Amk hf; have HY7 := Amk (blk_kept HY6.out hk.kept (by rintro (e | e | e | e); (omega); (omega); (cases e); exact absurd e (Kd.R_ne HF6.out.own.codes HY6.out (by decide)))); have HP7 := Amk (blk_kept HP6.out hk.kept (by rintro (e | e | e | e); (omega); (omega); (cases e); exact absurd e (Kd.R_ne HF6.out.own.codes HP6.out (by decide)))); clear hf hk; obtain ⟨A7, n7, c7, rfl, _⟩ := R_parts HF7.out.own.will; obtain ⟨A8, n8, c8, rfl, _⟩ := R_parts HF7.out.own.codes)
   have HS7 : Aside0 ((fun W => W.heap[o]? = some (.cells (mqCells s9 (.slice A7 n7 c7) (.slice A8 n8 c8)) 45 (0, 0)) ∧ W.cell? ⟨f + 1, 0, none⟩ = some (.pointer (some ⟨f, 0, none⟩)) ∧ W.cell? ⟨f, 2, none⟩ = some vA') w7.drew) := ⟨⟨HF7.out.own.blk, (bqc HP7.out 0).trans rfl, HF7.out.c2⟩⟩
   try simp only [Lga, Lgz, Lgs, Act.put, Lsa, Lsz, Lss]
   refine wp_region_held_drew (S := (fun W => W.heap[o]? = some (.cells (mqCells s9 (.slice A7 n7 c7) (.slice A8 n8 c8)) 45 (0, 0)) ∧ W.cell? ⟨f + 1, 0, none⟩ = some (.pointer (some ⟨f, 0, none⟩)) ∧ W.cell? ⟨f, 2, none⟩ = some vA')) (by kernel_rfl) HS7.out (fun hHeld => ?_)
   refine tkH 0 (.agg (mqCells s9 (.slice A7 n7 c7) (.slice A8 n8 c8))) hHeld ?_ ?_; (focus intro w_ hSw; exact exec_load_row 45 (.tmp 7) rfl o rfl 45 _ (0, 0) _ hSw.1 Tryz.underlying45 rfl (by kernel_rfl)); try simp only [Lga, Lgz, Lgs, Act.put, Lsa, Lsz, Lss]
   refine tkH 1 ?_ hHeld ?_ ?_; rotate_left; (focus intro w_ hSw; (try dsimp only at hSw); go_simp; (try simp only [hSw]); (try rfl)); rotate_left; try simp only [Lga, Lgz, Lgs, Act.put, Lsa, Lsz, Lss]
   refine tkH 2 ?_ hHeld ?_ ?_; rotate_left; (focus intro w_ hSw; (try dsimp only at hSw); go_simp; (try simp only [hSw]); (try rfl)); rotate_left; try simp only [Lga, Lgz, Lgs, Act.put, Lsa, Lsz, Lss]
   refine tkH 3 ?_ hHeld ?_ ?_; rotate_left; (focus intro w_ hSw; (try dsimp only at hSw); go_simp; (try simp only [hSw]); (try rfl)); rotate_left; try simp only [Lga, Lgz, Lgs, Act.put, Lsa, Lsz, Lss]
   refine tkH 4 ?_ hHeld ?_ ?_; rotate_left; (focus intro w_ hSw; (try dsimp only at hSw); go_simp; (try simp only [hSw]); (try rfl)); rotate_left; try simp only [Lga, Lgz, Lgs, Act.put, Lsa, Lsz, Lss]
   refine wpAnyH_ready (rs := [5]) (by kernel_rfl) (by simp) ?_
   refine AllReadyH.cons rfl (fun K hK => ?_) AllReadyH.nil
   rw [if_pos (by kernel_rfl)]
   simp only [Lga, Lgz, Lgs]
   refine wp_store_blk 45 (.tmp 4) (.tmp 39) (by kernel_rfl) (by kernel_rfl) (g := w.heap.size + 1) (e := 45) (.agg (mqCells s9 (.slice A7 n7 c7) (.slice A8 n8 c8))) (mqCells s9 (.slice A7 n7 c7) (.slice A8 n8 c8)).toList (by kernel_rfl) (by kernel_rfl) (by kernel_rfl) (blk_drew HY7.out) (by kernel_rfl) rfl (by simp [mqCells, Value.oneCell']) (fun W1 HW => ?_)
   have HW1 := Amk HW
   clear HW
   (first | refine hK.out _ _ (And.intro (HW1.out.blk_ HF7.out.drew.own.blk (by omega)) (And.intro ((bqc (HW1.out.blk_ (blk_drew HP7.out) (by omega)) 0).trans rfl) ((bqc (HW1.out.blk_ HF7.out.drew.fb (by omega)) 2).trans rfl))) (fun hHeld => ?_) | refine hK _ _ (And.intro (HW1.out.blk_ HF7.out.drew.own.blk (by omega)) (And.intro ((bqc (HW1.out.blk_ (blk_drew HP7.out) (by omega)) 0).trans rfl) ((bqc (HW1.out.blk_ HF7.out.drew.fb (by omega)) 2).trans rfl))) (fun hHeld => ?_)); try simp only [Lga, Lgz, Lgs, Act.put, Lsa, Lsz, Lss]
   refine tkH 6 ?_ hHeld ?_ ?_; rotate_left; (focus intro w_ hSw; (try dsimp only at hSw); go_simp; (try simp only [hSw]); (try rfl)); rotate_left; try simp only [Lga, Lgz, Lgs, Act.put, Lsa, Lsz, Lss]
   refine tkH 7 ?_ hHeld ?_ ?_; rotate_left; (focus intro w_ hSw; (try dsimp only at hSw); go_simp; (try simp only [hSw]); (try rfl)); rotate_left; try simp only [Lga, Lgz, Lgs, Act.put, Lsa, Lsz, Lss]
   refine wpAnyH_done (by kernel_rfl) ?_ _
   clear hK K
   obtain rfl : R = (s9, a9, true) := HR2.out
   go_wp2_with fail
   refine bodyPost_ret (mq_results rfl rfl rfl HW1.out.blk rfl) rfl ?_
   exact ⟨_, _, _, rfl, R_wrote HF7.out.drew.own.will HW1.out (blk_drew HY7.out) (by decide), R_wrote HF7.out.drew.own.codes HW1.out (blk_drew HY7.out) (by decide), R_wrote HF7.out.drew.row HW1.out (blk_drew HY7.out) (by decide), HW1.out.below HF7.out.drew.bel HF7.out.drew.sz (Nat.le_succ _)⟩
theorem passed_calls (ref e : Int) (w : World) : Calls Tryz.prog 74 #[.int .i64 ref, .int .i64 e] w fun e' w' => e' = .returned (.bool (passedF ref e)) ∧ w' = w := by
 unfold passedF
 by_cases h1 : ref = 1
 ·
  subst h1
  rw [if_pos rfl]
  go_enter Tryz.func74, Tryz.ntmps74
  go_wp2_with fail
  go_ret
  exact ⟨rfl, rfl⟩
 rw [if_neg h1]
 have b1 : (ref == 1) = false := by simpa using h1
 by_cases h0 : ref = 0
 ·
  subst h0
  rw [if_pos (.inl rfl)]
  go_enter Tryz.func74, Tryz.ntmps74
  go_wp2_with fail
  go_ret
  exact ⟨by simp [bne, BEq.beq], rfl⟩
 have b0 : (ref == 0) = false := by simpa using h0
 by_cases h3 : ref = 3
 ·
  subst h3
  rw [if_pos (.inr rfl)]
  go_enter Tryz.func74, Tryz.ntmps74
  go_wp2_with fail
  go_ret
  exact ⟨by simp [bne, BEq.beq], rfl⟩
 have b3 : (ref == 3) = false := by simpa using h3
 rw [if_neg (by omega)]
 go_enter Tryz.func74, Tryz.ntmps74
 go_wp2_with fail
 go_ret
 exact ⟨rfl, rfl⟩
theorem c73_bad (w0 w : World) (f o : Nat) (s : Mq) (conn : Int) (vW vC vA : Value) (h : Fr w0 w f o s conn [] vW vC vA) (e kind ref : Int) (bytes text : ByteArray) (vO : Value) (id : Nat) (eb ab pb ib : Nat) (he : w.heap[eb]? = some (.cells #[.int .i64 e] 24 (0, 0))) (ha : w.heap[ab]? = some (.cells #[.int .i64 kind, .string bytes, vO, .int .i64 ref, .string text] 57 (0, 0))) (hp : w.heap[pb]? = some (.cells #[.pointer (some ⟨f, 0, none⟩)] 103 (0, 0))) (hi : w.heap[ib]? = some (.cells #[.int .i64 id] 3 (0, 0))) (hno : (decide (e = 0) || passedF ref e) = false) :
  Calls Tryz.prog 73 #[.pointer (some ⟨eb, 0, none⟩), .pointer (some ⟨ab, 0, none⟩), .pointer (some ⟨pb, 0, none⟩), .pointer (some ⟨ib, 0, none⟩)] w (FPost w0 w f o conn vA vC true s []) := by
 have HF := Amk h
 have ce := (bqc he 0).trans (show _ = some (Value.int .i64 e) from rfl)
 have cr := (bqc ha 3).trans (show _ = some (Value.int .i64 ref) from rfl)
 have cp := (bqc hp 0).trans (show _ = some (Value.pointer (some ⟨f, 0, none⟩)) from rfl)
 have ci := (bqc hi 0).trans (show _ = some (Value.int .i64 id) from rfl)
 have HPS : Aside0 (∀ W, Calls Tryz.prog 74 #[.int .i64 ref, .int .i64 e] W fun e' w' => e' = .returned (.bool (passedF ref e)) ∧ w' = W) := ⟨fun W => passed_calls ref e W⟩
 clear h he ha hp hi
 obtain ⟨hz, hpf⟩ : decide (e = 0) = false ∧ passedF ref e = false := by simpa using hno
 rw [hpf] at HPS
 have hd1 : (e == 0) = false := by simpa using hz
 clear hno hpf
 go_enter Tryz.func73, Tryz.ntmps73
 go_wp2_with (first | (go_at_call 74; refine Calls.mono (HPS.out _) ?_; rintro e1 w1 ⟨rfl, rfl⟩) | (go_at_call 70; refine Calls.mono (unlessQ_no _) ?_; rintro e2 w2 ⟨rfl, rfl⟩; exact ⟨rfl, rfl, _, _, _, HF.out, Went.refl _ _ _ _ _⟩))
theorem c73_open (w0 w : World) (f o : Nat) (s : Mq) (conn : Int) (vW vC vA : Value) (h : Fr w0 w f o s conn [] vW vC vA) (e kind ref : Int) (bytes text : ByteArray) (vO : Value) (id : Nat) (eb ab pb ib : Nat) (he : w.heap[eb]? = some (.cells #[.int .i64 e] 24 (0, 0))) (ha : w.heap[ab]? = some (.cells #[.int .i64 kind, .string bytes, vO, .int .i64 ref, .string text] 57 (0, 0))) (hp : w.heap[pb]? = some (.cells #[.pointer (some ⟨f, 0, none⟩)] 103 (0, 0))) (hi : w.heap[ib]? = some (.cells #[.int .i64 id] 3 (0, 0))) (hok : (decide (e = 0) || passedF ref e) = true) (hk : ref = 2) :
  Calls Tryz.prog 73 #[.pointer (some ⟨eb, 0, none⟩), .pointer (some ⟨ab, 0, none⟩), .pointer (some ⟨pb, 0, none⟩), .pointer (some ⟨ib, 0, none⟩)] w (FPost w0 w f o conn vA vC false s [sayAct (enc 2 0 [0, 0])]) := by
 subst hk
 have HF := Amk h
 have ce := (bqc he 0).trans (show _ = some (Value.int .i64 e) from rfl)
 have cr := (bqc ha 3).trans (show _ = some (Value.int .i64 2) from rfl)
 have cp := (bqc hp 0).trans (show _ = some (Value.pointer (some ⟨f, 0, none⟩)) from rfl)
 have ci := (bqc hi 0).trans (show _ = some (Value.int .i64 id) from rfl)
 have HPS : Aside0 (∀ W, Calls Tryz.prog 74 #[.int .i64 2, .int .i64 e] W fun e' w' => e' = .returned (.bool (passedF 2 e)) ∧ w' = W) := ⟨fun W => passed_calls 2 e W⟩
 have HE := Amk (fun W => ok_calls W)
 clear h he ha hp hi
 obtain ⟨pf, hpf⟩ : ∃ pf, passedF 2 e = pf := ⟨_, rfl⟩
 rw [hpf] at HPS hok
 clear hpf
 by_cases hz : e = 0
 ·
  subst hz
  clear hok
  go_enter Tryz.func73, Tryz.ntmps73
  go_wp2_with (first | (go_at_call 74; refine Calls.mono (HPS.out _) ?_; rintro e1 w1 ⟨rfl, rfl⟩) | (go_at_call 70; refine Calls.mono (unlessQ_yes _) ?_; rintro e2 w2 ⟨rfl, rfl⟩) | (go_at_call 75; refine Calls.mono (say_calls w0 _ f o s conn [] _ _ _ HF.out (by simp) okP _ _ _ _ (fun W _ => HE.out W)) ?_; rintro e1 w1 ⟨rfl, vW', vC', vA', hf, hk⟩; have HF1 := Amk hf; have HK1 := Amk hk; clear hf hk))
  go_end0
  exact ⟨rfl, _, _, _, HF1.out, HK1.out⟩
 ·
  have hd1 : (e == 0) = false := by simpa using hz
  have hd2 : decide (e = 0) = false := decide_eq_false hz
  obtain rfl : pf = true := by rw [hd2] at hok; simpa using hok
  clear hok hz
  go_enter Tryz.func73, Tryz.ntmps73
  go_wp2_with (first | (go_at_call 74; refine Calls.mono (HPS.out _) ?_; rintro e1 w1 ⟨rfl, rfl⟩) | (go_at_call 70; refine Calls.mono (unlessQ_yes _) ?_; rintro e2 w2 ⟨rfl, rfl⟩) | (go_at_call 75; refine Calls.mono (say_calls w0 _ f o s conn [] _ _ _ HF.out (by simp) okP _ _ _ _ (fun W _ => HE.out W)) ?_; rintro e1 w1 ⟨rfl, vW', vC', vA', hf, hk⟩; have HF1 := Amk hf; have HK1 := Amk hk; clear hf hk))
  go_end0
  exact ⟨rfl, _, _, _, HF1.out, HK1.out⟩
theorem c73_ack (w0 w : World) (f o : Nat) (s : Mq) (conn : Int) (vW vC vA : Value) (h : Fr w0 w f o s conn [] vW vC vA) (e kind ref : Int) (bytes text : ByteArray) (vO : Value) (id : Nat) (eb ab pb ib : Nat) (he : w.heap[eb]? = some (.cells #[.int .i64 e] 24 (0, 0))) (ha : w.heap[ab]? = some (.cells #[.int .i64 kind, .string bytes, vO, .int .i64 ref, .string text] 57 (0, 0))) (hp : w.heap[pb]? = some (.cells #[.pointer (some ⟨f, 0, none⟩)] 103 (0, 0))) (hi : w.heap[ib]? = some (.cells #[.int .i64 id] 3 (0, 0))) (hok : (decide (e = 0) || passedF ref e) = true) (hk : ref = 4) (h1 : 1 ≤ id) (h2 : id ≤ 65535) :
  Calls Tryz.prog 73 #[.pointer (some ⟨eb, 0, none⟩), .pointer (some ⟨ab, 0, none⟩), .pointer (some ⟨pb, 0, none⟩), .pointer (some ⟨ib, 0, none⟩)] w (FPost w0 w f o conn vA vC false s [sayAct (enc 4 0 (be16 id))]) := by
 subst hk
 have HF := Amk h
 have ce := (bqc he 0).trans (show _ = some (Value.int .i64 e) from rfl)
 have cr := (bqc ha 3).trans (show _ = some (Value.int .i64 4) from rfl)
 have cp := (bqc hp 0).trans (show _ = some (Value.pointer (some ⟨f, 0, none⟩)) from rfl)
 have ci := (bqc hi 0).trans (show _ = some (Value.int .i64 id) from rfl)
 have HPS : Aside0 (∀ W, Calls Tryz.prog 74 #[.int .i64 4, .int .i64 e] W fun e' w' => e' = .returned (.bool (passedF 4 e)) ∧ w' = W) := ⟨fun W => passed_calls 4 e W⟩
 have HE := Amk (fun W => ack_calls 4 id (by simp) h1 h2 W)
 clear h he ha hp hi
 obtain ⟨pf, hpf⟩ : ∃ pf, passedF 4 e = pf := ⟨_, rfl⟩
 rw [hpf] at HPS hok
 clear hpf
 by_cases hz : e = 0
 ·
  subst hz
  clear hok
  go_enter Tryz.func73, Tryz.ntmps73
  go_wp2_with (first | (go_at_call 74; refine Calls.mono (HPS.out _) ?_; rintro e1 w1 ⟨rfl, rfl⟩) | (go_at_call 70; refine Calls.mono (unlessQ_yes _) ?_; rintro e2 w2 ⟨rfl, rfl⟩) | (go_at_call 75; refine Calls.mono (say_calls w0 _ f o s conn [] _ _ _ HF.out (by simp) (ackP 4 id) _ _ _ _ (fun W _ => HE.out W)) ?_; rintro e1 w1 ⟨rfl, vW', vC', vA', hf, hk⟩; have HF1 := Amk hf; have HK1 := Amk hk; clear hf hk))
  go_end0
  exact ⟨rfl, _, _, _, HF1.out, HK1.out⟩
 ·
  have hd1 : (e == 0) = false := by simpa using hz
  have hd2 : decide (e = 0) = false := decide_eq_false hz
  obtain rfl : pf = true := by rw [hd2] at hok; simpa using hok
  clear hok hz
  go_enter Tryz.func73, Tryz.ntmps73
  go_wp2_with (first | (go_at_call 74; refine Calls.mono (HPS.out _) ?_; rintro e1 w1 ⟨rfl, rfl⟩) | (go_at_call 70; refine Calls.mono (unlessQ_yes _) ?_; rintro e2 w2 ⟨rfl, rfl⟩) | (go_at_call 75; refine Calls.mono (say_calls w0 _ f o s conn [] _ _ _ HF.out (by simp) (ackP 4 id) _ _ _ _ (fun W _ => HE.out W)) ?_; rintro e1 w1 ⟨rfl, vW', vC', vA', hf, hk⟩; have HF1 := Amk hf; have HK1 := Amk hk; clear hf hk))
  go_end0
  exact ⟨rfl, _, _, _, HF1.out, HK1.out⟩
theorem c73_rec (w0 w : World) (f o : Nat) (s : Mq) (conn : Int) (vW vC vA : Value) (h : Fr w0 w f o s conn [] vW vC vA) (e kind ref : Int) (bytes text : ByteArray) (vO : Value) (id : Nat) (eb ab pb ib : Nat) (he : w.heap[eb]? = some (.cells #[.int .i64 e] 24 (0, 0))) (ha : w.heap[ab]? = some (.cells #[.int .i64 kind, .string bytes, vO, .int .i64 ref, .string text] 57 (0, 0))) (hp : w.heap[pb]? = some (.cells #[.pointer (some ⟨f, 0, none⟩)] 103 (0, 0))) (hi : w.heap[ib]? = some (.cells #[.int .i64 id] 3 (0, 0))) (hok : (decide (e = 0) || passedF ref e) = true) (hk : ref = 5) (h1 : 1 ≤ id) (h2 : id ≤ 65535) :
  Calls Tryz.prog 73 #[.pointer (some ⟨eb, 0, none⟩), .pointer (some ⟨ab, 0, none⟩), .pointer (some ⟨pb, 0, none⟩), .pointer (some ⟨ib, 0, none⟩)] w (FPost w0 w f o conn vA vC false s [sayAct (enc 5 0 (be16 id))]) := by
 subst hk
 have HF := Amk h
 have ce := (bqc he 0).trans (show _ = some (Value.int .i64 e) from rfl)
 have cr := (bqc ha 3).trans (show _ = some (Value.int .i64 5) from rfl)
 have cp := (bqc hp 0).trans (show _ = some (Value.pointer (some ⟨f, 0, none⟩)) from rfl)
 have ci := (bqc hi 0).trans (show _ = some (Value.int .i64 id) from rfl)
 have HPS : Aside0 (∀ W, Calls Tryz.prog 74 #[.int .i64 5, .int .i64 e] W fun e' w' => e' = .returned (.bool (passedF 5 e)) ∧ w' = W) := ⟨fun W => passed_calls 5 e W⟩
 have HE := Amk (fun W => ack_calls 5 id (by simp) h1 h2 W)
 clear h he ha hp hi
 obtain ⟨pf, hpf⟩ : ∃ pf, passedF 5 e = pf := ⟨_, rfl⟩
 rw [hpf] at HPS hok
 clear hpf
 by_cases hz : e = 0
 ·
  subst hz
  clear hok
  go_enter Tryz.func73, Tryz.ntmps73
  go_wp2_with (first | (go_at_call 74; refine Calls.mono (HPS.out _) ?_; rintro e1 w1 ⟨rfl, rfl⟩) | (go_at_call 70; refine Calls.mono (unlessQ_yes _) ?_; rintro e2 w2 ⟨rfl, rfl⟩) | (go_at_call 75; refine Calls.mono (say_calls w0 _ f o s conn [] _ _ _ HF.out (by simp) (ackP 5 id) _ _ _ _ (fun W _ => HE.out W)) ?_; rintro e1 w1 ⟨rfl, vW', vC', vA', hf, hk⟩; have HF1 := Amk hf; have HK1 := Amk hk; clear hf hk))
  go_end0
  exact ⟨rfl, _, _, _, HF1.out, HK1.out⟩
 ·
  have hd1 : (e == 0) = false := by simpa using hz
  have hd2 : decide (e = 0) = false := decide_eq_false hz
  obtain rfl : pf = true := by rw [hd2] at hok; simpa using hok
  clear hok hz
  go_enter Tryz.func73, Tryz.ntmps73
  go_wp2_with (first | (go_at_call 74; refine Calls.mono (HPS.out _) ?_; rintro e1 w1 ⟨rfl, rfl⟩) | (go_at_call 70; refine Calls.mono (unlessQ_yes _) ?_; rintro e2 w2 ⟨rfl, rfl⟩) | (go_at_call 75; refine Calls.mono (say_calls w0 _ f o s conn [] _ _ _ HF.out (by simp) (ackP 5 id) _ _ _ _ (fun W _ => HE.out W)) ?_; rintro e1 w1 ⟨rfl, vW', vC', vA', hf, hk⟩; have HF1 := Amk hf; have HK1 := Amk hk; clear hf hk))
  go_end0
  exact ⟨rfl, _, _, _, HF1.out, HK1.out⟩
theorem c73_comp (w0 w : World) (f o : Nat) (s : Mq) (conn : Int) (vW vC vA : Value) (h : Fr w0 w f o s conn [] vW vC vA) (e kind ref : Int) (bytes text : ByteArray) (vO : Value) (id : Nat) (eb ab pb ib : Nat) (he : w.heap[eb]? = some (.cells #[.int .i64 e] 24 (0, 0))) (ha : w.heap[ab]? = some (.cells #[.int .i64 kind, .string bytes, vO, .int .i64 ref, .string text] 57 (0, 0))) (hp : w.heap[pb]? = some (.cells #[.pointer (some ⟨f, 0, none⟩)] 103 (0, 0))) (hi : w.heap[ib]? = some (.cells #[.int .i64 id] 3 (0, 0))) (hok : (decide (e = 0) || passedF ref e) = true) (hk : ref = 6) (h1 : 1 ≤ id) (h2 : id ≤ 65535) :
  Calls Tryz.prog 73 #[.pointer (some ⟨eb, 0, none⟩), .pointer (some ⟨ab, 0, none⟩), .pointer (some ⟨pb, 0, none⟩), .pointer (some ⟨ib, 0, none⟩)] w (FPost w0 w f o conn vA vC false s [sayAct (enc 7 0 (be16 id))]) := by
 subst hk
 have HF := Amk h
 have ce := (bqc he 0).trans (show _ = some (Value.int .i64 e) from rfl)
 have cr := (bqc ha 3).trans (show _ = some (Value.int .i64 6) from rfl)
 have cp := (bqc hp 0).trans (show _ = some (Value.pointer (some ⟨f, 0, none⟩)) from rfl)
 have ci := (bqc hi 0).trans (show _ = some (Value.int .i64 id) from rfl)
 have HPS : Aside0 (∀ W, Calls Tryz.prog 74 #[.int .i64 6, .int .i64 e] W fun e' w' => e' = .returned (.bool (passedF 6 e)) ∧ w' = W) := ⟨fun W => passed_calls 6 e W⟩
 have HE := Amk (fun W => ack_calls 7 id (by simp) h1 h2 W)
 clear h he ha hp hi
 obtain ⟨pf, hpf⟩ : ∃ pf, passedF 6 e = pf := ⟨_, rfl⟩
 rw [hpf] at HPS hok
 clear hpf
 by_cases hz : e = 0
 ·
  subst hz
  clear hok
  go_enter Tryz.func73, Tryz.ntmps73
  go_wp2_with (first | (go_at_call 74; refine Calls.mono (HPS.out _) ?_; rintro e1 w1 ⟨rfl, rfl⟩) | (go_at_call 70; refine Calls.mono (unlessQ_yes _) ?_; rintro e2 w2 ⟨rfl, rfl⟩) | (go_at_call 75; refine Calls.mono (say_calls w0 _ f o s conn [] _ _ _ HF.out (by simp) (ackP 7 id) _ _ _ _ (fun W _ => HE.out W)) ?_; rintro e1 w1 ⟨rfl, vW', vC', vA', hf, hk⟩; have HF1 := Amk hf; have HK1 := Amk hk; clear hf hk))
  go_end0
  exact ⟨rfl, _, _, _, HF1.out, HK1.out⟩
 ·
  have hd1 : (e == 0) = false := by simpa using hz
  have hd2 : decide (e = 0) = false := decide_eq_false hz
  obtain rfl : pf = true := by rw [hd2] at hok; simpa using hok
  clear hok hz
  go_enter Tryz.func73, Tryz.ntmps73
  go_wp2_with (first | (go_at_call 74; refine Calls.mono (HPS.out _) ?_; rintro e1 w1 ⟨rfl, rfl⟩) | (go_at_call 70; refine Calls.mono (unlessQ_yes _) ?_; rintro e2 w2 ⟨rfl, rfl⟩) | (go_at_call 75; refine Calls.mono (say_calls w0 _ f o s conn [] _ _ _ HF.out (by simp) (ackP 7 id) _ _ _ _ (fun W _ => HE.out W)) ?_; rintro e1 w1 ⟨rfl, vW', vC', vA', hf, hk⟩; have HF1 := Amk hf; have HK1 := Amk hk; clear hf hk))
  go_end0
  exact ⟨rfl, _, _, _, HF1.out, HK1.out⟩
theorem c73_none (w0 w : World) (f o : Nat) (s : Mq) (conn : Int) (vW vC vA : Value) (h : Fr w0 w f o s conn [] vW vC vA) (e kind ref : Int) (bytes text : ByteArray) (vO : Value) (id : Nat) (eb ab pb ib : Nat) (he : w.heap[eb]? = some (.cells #[.int .i64 e] 24 (0, 0))) (ha : w.heap[ab]? = some (.cells #[.int .i64 kind, .string bytes, vO, .int .i64 ref, .string text] 57 (0, 0))) (hp : w.heap[pb]? = some (.cells #[.pointer (some ⟨f, 0, none⟩)] 103 (0, 0))) (hi : w.heap[ib]? = some (.cells #[.int .i64 id] 3 (0, 0))) (hok : (decide (e = 0) || passedF ref e) = true) (k2 : ref ≠ 2) (k4 : ref ≠ 4) (k5 : ref ≠ 5) (k6 : ref ≠ 6) (k3 : ref ≠ 3) :
  Calls Tryz.prog 73 #[.pointer (some ⟨eb, 0, none⟩), .pointer (some ⟨ab, 0, none⟩), .pointer (some ⟨pb, 0, none⟩), .pointer (some ⟨ib, 0, none⟩)] w (FPost w0 w f o conn vA vC false s []) := by
 have HF := Amk h
 have ce := (bqc he 0).trans (show _ = some (Value.int .i64 e) from rfl)
 have cr := (bqc ha 3).trans (show _ = some (Value.int .i64 ref) from rfl)
 have cp := (bqc hp 0).trans (show _ = some (Value.pointer (some ⟨f, 0, none⟩)) from rfl)
 have ci := (bqc hi 0).trans (show _ = some (Value.int .i64 id) from rfl)
 have HPS : Aside0 (∀ W, Calls Tryz.prog 74 #[.int .i64 ref, .int .i64 e] W fun e' w' => e' = .returned (.bool (passedF ref e)) ∧ w' = W) := ⟨fun W => passed_calls ref e W⟩
 clear h he ha hp hi
 obtain ⟨pf, hpf⟩ : ∃ pf, passedF ref e = pf := ⟨_, rfl⟩
 rw [hpf] at HPS hok
 clear hpf
 have b2 : (ref == 2) = false := by simpa using k2
 have b4 : (ref == 4) = false := by simpa using k4
 have b5 : (ref == 5) = false := by simpa using k5
 have b6 : (ref == 6) = false := by simpa using k6
 have b3 : (ref == 3) = false := by simpa using k3
 by_cases hz : e = 0
 ·
  subst hz
  clear hok
  go_enter Tryz.func73, Tryz.ntmps73
  go_wp2_with (first | (go_at_call 74; refine Calls.mono (HPS.out _) ?_; rintro e1 w1 ⟨rfl, rfl⟩) | (go_at_call 70; refine Calls.mono (unlessQ_yes _) ?_; rintro e2 w2 ⟨rfl, rfl⟩))
  go_end0
  exact ⟨rfl, _, _, _, HF.out, Went.refl _ _ _ _ _⟩
 ·
  have hd1 : (e == 0) = false := by simpa using hz
  have hd2 : decide (e = 0) = false := decide_eq_false hz
  obtain rfl : pf = true := by rw [hd2] at hok; simpa using hok
  clear hok hz
  go_enter Tryz.func73, Tryz.ntmps73
  go_wp2_with (first | (go_at_call 74; refine Calls.mono (HPS.out _) ?_; rintro e1 w1 ⟨rfl, rfl⟩) | (go_at_call 70; refine Calls.mono (unlessQ_yes _) ?_; rintro e2 w2 ⟨rfl, rfl⟩))
  go_end0
  exact ⟨rfl, _, _, _, HF.out, Went.refl _ _ _ _ _⟩
theorem R_over3 {α : Type} {d : Kd α} {e base base' : Nat} {v u : Value} {xs : List α} {cs : List Int} {W W1 : World} (h : d.R e W base (fun _ => True) v xs) (hu : (Kd.int .i64).R 3 W base' (fun _ => True) u cs) (hg : W.grownBy W1 u.ownBlock) (ht : ∀ q, q ∈ e :: d.E → q ≠ 3) : d.R e W1 base (fun _ => True) v xs :=
 Kd.R_over' h (Kd.R_typed hu) ht hg
section
variable {w0 W W1 : World} {f o : Nat} {s : Mq} {conn : Int} {acts : List BAct} {vW vC vA v1 : Value} {cs : List Int}
theorem blk_set_ne {g k t u : Nat} {cs ds : Array Value} (h : W.heap[k]? = some (.cells cs t (0, 0))) (h2 : W.heap[g]? = some (.cells ds u (0, 0))) (ht : t ≠ u) (j : Nat) (v : Value) : (W.setCell ⟨g, j, none⟩ v).heap[k]? = some (.cells cs t (0, 0)) := blk_far h (blk_ne h h2 ht) v
theorem Fr.grownC (h : Fr w0 W f o s conn acts vW vC vA) (hg : W.grownBy W1 vC.ownBlock) (hB : Below w0.heap.size w0 W1) :
  W1.heap[f]? = some (.cells #[.pointer (some ⟨o, 0, none⟩), .int .i64 conn, vA] 106 (0, 0)) ∧ W1.heap[o]? = some (.cells (mqCells s vW vC) 45 (0, 0)) :=
 ⟨blk_grown h.fb hg (Kd.R_ne h.own.codes h.fb (by decide)), blk_grown h.own.blk hg (Kd.R_ne h.own.codes h.own.blk (by decide))⟩
theorem Fr.pushC (h : Fr w0 W f o s conn acts vW vC vA) (hg : W.grownBy W1 vC.ownBlock) (hB : Below w0.heap.size w0 W1) (hR : (Kd.int .i64).R 3 W1 w0.heap.size (fun _ => True) v1 cs) :
  Fr w0 (W1.setCell ⟨o, 6, none⟩ v1) f o { s with codes := cs } conn acts vW v1 vA := by
 obtain ⟨hf, ho⟩ := h.grownC hg hB
 have hne := h.fo
 exact ⟨blk_far hf hne _, ⟨by simpa [mqCells] using blk_set ho 6 v1, Kd.R_set (R_over3 h.own.will h.own.codes hg (by decide)) ho (by decide) 6 _, Kd.R_set hR ho (by decide) 6 _, h.own.bo⟩, Kd.R_set (R_over3 h.row h.own.codes hg (by decide)) ho (by decide) 6 _, h.bf, below_set hB h.own.bo⟩
theorem Fr.pushedC (h : Fr w0 W f o s conn acts vW vC vA) (hg : W.grownBy W1 vC.ownBlock) (hat : v1.ownBlock = vC.ownBlock ∨ ∃ b, v1.ownBlock = some b ∧ W.heap.size ≤ b) : Went W (W1.setCell ⟨o, 6, none⟩ v1) f o vA vC vA v1 :=
 ⟨(Kept.of_grown hg (Kept.refl _ _) (fun k hk => .inl (.inr (.inr (.inr hk.symm))))).setCell (.inl (.inr (.inl rfl))) _, .inl rfl, hat.elim .inl (fun h => .inr (.inr h))⟩
theorem Fr.farT {k t : Nat} {cells : Array Value} (h : Fr w0 W f o s conn acts vW vC vA) (hc : W.heap[k]? = some (.cells cells t (0, 0))) (ht : t ≠ 57 ∧ t ≠ 3 ∧ t ≠ 106 ∧ t ≠ 45) : ¬ FrK f o vA vC k := by
 rintro (e | e | e | e)
 ·
  subst e; rw [h.fb] at hc; simp only [Option.some.injEq, Obj.cells.injEq] at hc; exact ht.2.2.1 hc.2.1.symm
 ·
  subst e; rw [h.own.blk] at hc; simp only [Option.some.injEq, Obj.cells.injEq] at hc; exact ht.2.2.2 hc.2.1.symm
 ·
  exact absurd e (Kd.R_ne h.row hc (Ne.symm ht.1))
 ·
  exact absurd e (Kd.R_ne h.own.codes hc (Ne.symm ht.2.1))
theorem Fr.farI {k : Nat} {cells : Array Value} (h : Fr w0 W f o s conn acts vW vC vA) (hc : W.heap[k]? = some (.cells cells 3 (0, 0))) (hk : some k ≠ vC.ownBlock) : ¬ FrK f o vA vC k := by
 rintro (e | e | e | e)
 ·
  subst e; rw [h.fb] at hc; simp at hc
 ·
  subst e; rw [h.own.blk] at hc; simp at hc
 ·
  exact absurd e (Kd.R_ne h.row hc (by decide))
 ·
  exact absurd e hk
end
theorem c73_bind0 (w0 w : World) (f o : Nat) (s : Mq) (conn : Int) (vW vC vA : Value) (h : Fr w0 w f o s conn [] vW vC vA) (e kind ref : Int) (bytes text : ByteArray) (vO : Value) (id : Nat) (eb ab pb ib : Nat) (he : w.heap[eb]? = some (.cells #[.int .i64 e] 24 (0, 0))) (ha : w.heap[ab]? = some (.cells #[.int .i64 kind, .string bytes, vO, .int .i64 ref, .string text] 57 (0, 0))) (hp : w.heap[pb]? = some (.cells #[.pointer (some ⟨f, 0, none⟩)] 103 (0, 0))) (hi : w.heap[ib]? = some (.cells #[.int .i64 id] 3 (0, 0))) (hl : s.codes.length < 32) (hib : some ib ≠ vC.ownBlock) (he0 : e = 0) (htx : text = ⟨#[]⟩) (hk : ref = 3) :
  Calls Tryz.prog 73 #[.pointer (some ⟨eb, 0, none⟩), .pointer (some ⟨ab, 0, none⟩), .pointer (some ⟨pb, 0, none⟩), .pointer (some ⟨ib, 0, none⟩)] w (FPost w0 w f o conn vA vC false { s with codes := (s.codes ++ [0]) } []) := by
 subst hk
 subst he0
 have HF := Amk h
 have ce := (bqc he 0).trans (show _ = some (Value.int .i64 0) from rfl)
 have cr := (bqc ha 3).trans (show _ = some (Value.int .i64 3) from rfl)
 have cp := (bqc hp 0).trans (show _ = some (Value.pointer (some ⟨f, 0, none⟩)) from rfl)
 have ci := (bqc hi 0).trans (show _ = some (Value.int .i64 id) from rfl)
 have ct := (bqc ha 4).trans (show _ = some (Value.string text) from rfl)
 have HL := Amk hl
 have HP := Amk hp
 have HA := Amk ha
 have HI := Amk hi
 have HIB := Amk hib
 have HIL := Amk (blt hi)
 subst htx
 clear h he ha hp hi hl hib
 obtain ⟨AC, nC, cC, rfl, HNC⟩ := R_parts HF.out.own.codes
 go_enter Tryz.func73, Tryz.ntmps73
 go_upto_region 14 with (first | (go_at_call 70; refine Calls.mono (unlessQ_yes _) ?_; rintro e2 w2 ⟨rfl, rfl⟩))
 have HFD := Amk HF.out.drew
 have HPD := Amk (blk_drew HP.out)
 have ctd := (And.intro ((bqc HPD.out 0).trans (show _ = some (Value.pointer (some ⟨f, 0, none⟩)) from rfl)) HFD.out.c0)
 have c6 := (HF.out.cell 6).trans (show _ = some (Value.slice AC nC cC) from rfl)
 have c6d := (HFD.out.cell 6).trans (show _ = some (Value.slice AC nC cC) from rfl)
 have c6a := ((HF.out.alloc (.cells #[.int .i64 0] 3)).cell 6).trans (show _ = some (Value.slice AC nC cC) from rfl)
 go_cut [] (fun wx => ∃ A2 n2 c2, Aside0 (Fr w0 wx f o { s with codes := (s.codes ++ [0]) } conn [] vW (.slice A2 n2 c2) vA) ∧ Aside0 (Went w2 wx f o vA (.slice AC nC cC) vA (.slice A2 n2 c2)) ∧ Aside0 (wx.heap[pb]? = some (.cells #[.pointer (some ⟨f, 0, none⟩)] 103 (0, 0))) ∧ Aside0 (wx.heap[ab]? = some (.cells #[.int .i64 kind, .string bytes, vO, .int .i64 3, .string ⟨#[]⟩] 57 (0, 0))) ∧ Aside0 (wx.heap[ib]? = some (.cells #[.int .i64 id] 3 (0, 0))))
 case first =>
  refine wp_region_held_drew (S := (fun W => W.cell? ⟨pb, 0, none⟩ = some (.pointer (some ⟨f, 0, none⟩)) ∧ W.cell? ⟨f, 0, none⟩ = some (.pointer (some ⟨o, 0, none⟩)))) (by kernel_rfl) ctd (fun hHeld => ?_)
  refine tkH 0 ?_ hHeld ?_ ?_; rotate_left; (focus intro w_ hSw; (try dsimp only at hSw); go_simp; (try simp only [hSw]); (try rfl)); rotate_left; try simp only [Lga, Lgz, Lgs, Act.put, Lsa, Lsz, Lss]
  refine tkH 1 ?_ hHeld ?_ ?_; rotate_left; (focus intro w_ hSw; (try dsimp only at hSw); go_simp; (try simp only [hSw]); (try rfl)); rotate_left; try simp only [Lga, Lgz, Lgs, Act.put, Lsa, Lsz, Lss]
  refine tkH 2 ?_ hHeld ?_ ?_; rotate_left; (focus intro w_ hSw; (try dsimp only at hSw); go_simp; (try simp only [hSw]); (try rfl)); rotate_left; try simp only [Lga, Lgz, Lgs, Act.put, Lsa, Lsz, Lss]
  refine tkH 3 ?_ hHeld ?_ ?_; rotate_left; (focus intro w_ hSw; (try dsimp only at hSw); go_simp; (try simp only [hSw]); (try rfl)); rotate_left; try simp only [Lga, Lgz, Lgs, Act.put, Lsa, Lsz, Lss]
  refine tkH 4 ?_ hHeld ?_ ?_; rotate_left; (focus intro w_ hSw; (try dsimp only at hSw); go_simp; (try simp only [hSw]); (try rfl)); rotate_left; try simp only [Lga, Lgz, Lgs, Act.put, Lsa, Lsz, Lss]
  refine tkH 5 ?_ hHeld ?_ ?_; rotate_left; (focus intro w_ hSw; (try dsimp only at hSw); go_simp; (try simp only [hSw]); (try rfl)); rotate_left; try simp only [Lga, Lgz, Lgs, Act.put, Lsa, Lsz, Lss]
  refine tkH 6 ?_ hHeld ?_ ?_; rotate_left; (focus intro w_ hSw; (try dsimp only at hSw); go_simp; (try simp only [hSw]); (try rfl)); rotate_left; try simp only [Lga, Lgz, Lgs, Act.put, Lsa, Lsz, Lss]
  refine tkH 7 ?_ hHeld ?_ ?_; rotate_left; (focus intro w_ hSw; (try dsimp only at hSw); go_simp; (try simp only [hSw]); (try rfl)); rotate_left; try simp only [Lga, Lgz, Lgs, Act.put, Lsa, Lsz, Lss]
  refine tkH 8 ?_ hHeld ?_ ?_; rotate_left; (focus intro w_ hSw; (try dsimp only at hSw); go_simp; (try simp only [hSw]); (try rfl)); rotate_left; try simp only [Lga, Lgz, Lgs, Act.put, Lsa, Lsz, Lss]
  refine tkH 9 ?_ hHeld ?_ ?_; rotate_left; (focus intro w_ hSw; (try dsimp only at hSw); go_simp; (try simp only [hSw]); (try rfl)); rotate_left; try simp only [Lga, Lgz, Lgs, Act.put, Lsa, Lsz, Lss]
  refine tkH 11 ?_ hHeld ?_ ?_; rotate_left; (focus intro w_ hSw; (try dsimp only at hSw); go_simp; (try simp only [hSw]); (try rfl)); rotate_left; try simp only [Lga, Lgz, Lgs, Act.put, Lsa, Lsz, Lss]
  refine wpAnyH_ready (rs := [10, 12]) (by kernel_rfl) (by simp) ?_
  refine AllReadyH.cons rfl (fun K hK => ?_) (AllReadyH.cons rfl (fun K hK => ?_) AllReadyH.nil)
  ·
   go_simp
   (first | refine hK.out _ _ (And.intro ((bqc HPD.out 0).trans (show _ = some (Value.pointer (some ⟨f, 0, none⟩)) from rfl)) HFD.out.c0) (fun hHeld => ?_) | refine hK _ _ (And.intro ((bqc HPD.out 0).trans (show _ = some (Value.pointer (some ⟨f, 0, none⟩)) from rfl)) HFD.out.c0) (fun hHeld => ?_)); try simp only [Lga, Lgz, Lgs, Act.put, Lsa, Lsz, Lss]
   refine wpAnyH_ready (rs := [12]) (by kernel_rfl) (by simp) ?_
   refine AllReadyH.cons rfl (fun K hK => ?_) AllReadyH.nil
   go_simp
   (first | refine hK.out _ _ (And.intro ((bqc (blk_drew (bka HP.out _)) 0).trans (show _ = some (Value.pointer (some ⟨f, 0, none⟩)) from rfl)) (HF.out.alloc _).drew.c0) (fun hHeld => ?_) | refine hK _ _ (And.intro ((bqc (blk_drew (bka HP.out _)) 0).trans (show _ = some (Value.pointer (some ⟨f, 0, none⟩)) from rfl)) (HF.out.alloc _).drew.c0) (fun hHeld => ?_)); try simp only [Lga, Lgz, Lgs, Act.put, Lsa, Lsz, Lss]
   refine wpAnyH_ready (rs := [13]) (by kernel_rfl) (by simp) ?_
   refine AllReadyH.cons rfl (fun K hK => ?_) AllReadyH.nil
   refine Kd.R_append_step (Kd.int .i64) (w0 := w0) (W := w2.drew) w0.heap.size (by kernel_rfl) (.tmp 53) (.tmp 55) 43 3 _ 8 (by kernel_rfl) Tryz.underlying43 info3 rfl (by decide) (by decide) (.slice AC nC cC) s.codes 0 [.int .i64 0] (fun _ => True) (fun k => True ∧ some k ≠ (Value.slice AC nC cC).ownBlock) (by kernel_rfl) (by kernel_rfl) rfl (fun _ hk => hk) (fun _ _ => trivial) HFD.out.own.codes HFD.out.bel HFD.out.sz (by have := HL.out; omega) ?_
   intro v2 w5 hR hB hG hat
   have HR2 := Amk hR; have HB2 := Amk hB; have HG2 := Amk hG; have HAT2 := Amk hat
   clear hR hB hG hat
   obtain ⟨A2, n2, c2, rfl, HN2⟩ := R_parts HR2.out
   have HM2 := Amk (HFD.out.grownC HG2.out HB2.out)
   have HP2 := Amk (blk_grown HPD.out HG2.out (Kd.R_ne HFD.out.own.codes HPD.out (by decide)))
   have ct2 := And.intro ((bqc HP2.out 0).trans (show _ = some (Value.pointer (some ⟨f, 0, none⟩)) from rfl)) ((bqc HM2.out.1 0).trans (show _ = some (Value.pointer (some ⟨o, 0, none⟩)) from rfl))
   have HF6 := Amk (HFD.out.pushC HG2.out HB2.out HR2.out)
   have HW6 := Amk (HFD.out.pushedC HG2.out HAT2.out)
   have HP6 := Amk (blk_set_ne HP2.out HM2.out.2 (by decide) 6 (.slice A2 n2 c2))
   have zf := blk_frozen HM2.out.2 6
   have cz := (bqc HM2.out.2 6).trans (show _ = some (Value.slice AC nC cC) from rfl)
   (first | refine hK.out _ _ ct2 (fun hHeld => ?_) | refine hK _ _ ct2 (fun hHeld => ?_)); try simp only [Lga, Lgz, Lgs, Act.put, Lsa, Lsz, Lss]
   refine tkH 14 ?_ hHeld ?_ ?_; rotate_left; (focus intro w_ hSw; (try dsimp only at hSw); go_simp; (try simp only [hSw]); (try rfl)); rotate_left; try simp only [Lga, Lgz, Lgs, Act.put, Lsa, Lsz, Lss]
   refine tkH 15 ?_ hHeld ?_ ?_; rotate_left; (focus intro w_ hSw; (try dsimp only at hSw); go_simp; (try simp only [hSw]); (try rfl)); rotate_left; try simp only [Lga, Lgz, Lgs, Act.put, Lsa, Lsz, Lss]
   refine wpAnyH_ready (rs := [16]) (by kernel_rfl) (by simp) ?_
   refine AllReadyH.cons rfl (fun K hK => ?_) AllReadyH.nil
   go_simp
   (first | refine hK.out _ _ (And.intro ((bqc HP6.out 0).trans (show _ = some (Value.pointer (some ⟨f, 0, none⟩)) from rfl)) HF6.out.c0) (fun hHeld => ?_) | refine hK _ _ (And.intro ((bqc HP6.out 0).trans (show _ = some (Value.pointer (some ⟨f, 0, none⟩)) from rfl)) HF6.out.c0) (fun hHeld => ?_)); try simp only [Lga, Lgz, Lgs, Act.put, Lsa, Lsz, Lss]
   refine wpAnyH_done (by kernel_rfl) ?_ _
   clear hK K
   go_wp2_with fail
   go_meet
   exact ⟨A2, n2, c2, HF6, ⟨Went.after (bdr (Below.refl _ _)) HW6.out⟩, HP6, ⟨blk_set_ne (blk_grown (blk_drew HA.out) HG2.out (Kd.R_ne HFD.out.own.codes (blk_drew HA.out) (by decide))) HM2.out.2 (by decide) 6 _⟩, ⟨blk_set_ne (blk_grown (blk_drew HI.out) HG2.out HIB.out) HM2.out.2 (by decide) 6 _⟩⟩
  ·
   go_simp
   (first | refine hK.out _ _ (And.intro ((bqc (blk_drew (bka HP.out _)) 0).trans (show _ = some (Value.pointer (some ⟨f, 0, none⟩)) from rfl)) (HF.out.alloc _).drew.c0) (fun hHeld => ?_) | refine hK _ _ (And.intro ((bqc (blk_drew (bka HP.out _)) 0).trans (show _ = some (Value.pointer (some ⟨f, 0, none⟩)) from rfl)) (HF.out.alloc _).drew.c0) (fun hHeld => ?_)); try simp only [Lga, Lgz, Lgs, Act.put, Lsa, Lsz, Lss]
   refine wpAnyH_ready (rs := [10]) (by kernel_rfl) (by simp) ?_
   refine AllReadyH.cons rfl (fun K hK => ?_) AllReadyH.nil
   go_simp
   (first | refine hK.out _ _ (And.intro ((bqc (blk_drew (bka HP.out _)) 0).trans (show _ = some (Value.pointer (some ⟨f, 0, none⟩)) from rfl)) (HF.out.alloc _).drew.c0) (fun hHeld => ?_) | refine hK _ _ (And.intro ((bqc (blk_drew (bka HP.out _)) 0).trans (show _ = some (Value.pointer (some ⟨f, 0, none⟩)) from rfl)) (HF.out.alloc _).drew.c0) (fun hHeld => ?_)); try simp only [Lga, Lgz, Lgs, Act.put, Lsa, Lsz, Lss]
   refine wpAnyH_ready (rs := [13]) (by kernel_rfl) (by simp) ?_
   refine AllReadyH.cons rfl (fun K hK => ?_) AllReadyH.nil
   refine Kd.R_append_step (Kd.int .i64) (w0 := w0) (W := w2.drew) w0.heap.size (by kernel_rfl) (.tmp 53) (.tmp 55) 43 3 _ 8 (by kernel_rfl) Tryz.underlying43 info3 rfl (by decide) (by decide) (.slice AC nC cC) s.codes 0 [.int .i64 0] (fun _ => True) (fun k => True ∧ some k ≠ (Value.slice AC nC cC).ownBlock) (by kernel_rfl) (by kernel_rfl) rfl (fun _ hk => hk) (fun _ _ => trivial) HFD.out.own.codes HFD.out.bel HFD.out.sz (by have := HL.out; omega) ?_
   intro v2 w5 hR hB hG hat
   have HR2 := Amk hR; have HB2 := Amk hB; have HG2 := Amk hG; have HAT2 := Amk hat
   clear hR hB hG hat
   obtain ⟨A2, n2, c2, rfl, HN2⟩ := R_parts HR2.out
   have HM2 := Amk (HFD.out.grownC HG2.out HB2.out)
   have HP2 := Amk (blk_grown HPD.out HG2.out (Kd.R_ne HFD.out.own.codes HPD.out (by decide)))
   have ct2 := And.intro ((bqc HP2.out 0).trans (show _ = some (Value.pointer (some ⟨f, 0, none⟩)) from rfl)) ((bqc HM2.out.1 0).trans (show _ = some (Value.pointer (some ⟨o, 0, none⟩)) from rfl))
   have HF6 := Amk (HFD.out.pushC HG2.out HB2.out HR2.out)
   have HW6 := Amk (HFD.out.pushedC HG2.out HAT2.out)
   have HP6 := Amk (blk_set_ne HP2.out HM2.out.2 (by decide) 6 (.slice A2 n2 c2))
   have zf := blk_frozen HM2.out.2 6
   have cz := (bqc HM2.out.2 6).trans (show _ = some (Value.slice AC nC cC) from rfl)
   (first | refine hK.out _ _ ct2 (fun hHeld => ?_) | refine hK _ _ ct2 (fun hHeld => ?_)); try simp only [Lga, Lgz, Lgs, Act.put, Lsa, Lsz, Lss]
   refine tkH 14 ?_ hHeld ?_ ?_; rotate_left; (focus intro w_ hSw; (try dsimp only at hSw); go_simp; (try simp only [hSw]); (try rfl)); rotate_left; try simp only [Lga, Lgz, Lgs, Act.put, Lsa, Lsz, Lss]
   refine tkH 15 ?_ hHeld ?_ ?_; rotate_left; (focus intro w_ hSw; (try dsimp only at hSw); go_simp; (try simp only [hSw]); (try rfl)); rotate_left; try simp only [Lga, Lgz, Lgs, Act.put, Lsa, Lsz, Lss]
   refine wpAnyH_ready (rs := [16]) (by kernel_rfl) (by simp) ?_
   refine AllReadyH.cons rfl (fun K hK => ?_) AllReadyH.nil
   go_simp
   (first | refine hK.out _ _ (And.intro ((bqc HP6.out 0).trans (show _ = some (Value.pointer (some ⟨f, 0, none⟩)) from rfl)) HF6.out.c0) (fun hHeld => ?_) | refine hK _ _ (And.intro ((bqc HP6.out 0).trans (show _ = some (Value.pointer (some ⟨f, 0, none⟩)) from rfl)) HF6.out.c0) (fun hHeld => ?_)); try simp only [Lga, Lgz, Lgs, Act.put, Lsa, Lsz, Lss]
   refine wpAnyH_done (by kernel_rfl) ?_ _
   clear hK K
   go_wp2_with fail
   go_meet
   exact ⟨A2, n2, c2, HF6, ⟨Went.after (bdr (Below.refl _ _)) HW6.out⟩, HP6, ⟨blk_set_ne (blk_grown (blk_drew HA.out) HG2.out (Kd.R_ne HFD.out.own.codes (blk_drew HA.out) (by decide))) HM2.out.2 (by decide) 6 _⟩, ⟨blk_set_ne (blk_grown (blk_drew HI.out) HG2.out HIB.out) HM2.out.2 (by decide) 6 _⟩⟩
 case rest =>
  obtain ⟨A2, n2, c2, HF3, HW3, HP3, HA3, HI3⟩ := hcut
  have ct := (bqc HA3.out 4).trans (show _ = some (Value.string ⟨#[]⟩) from rfl)
  clear HF HFD HPD ctd c6 c6d c6a HP HA HI
  go_wp2_with fail
  go_end0
  exact ⟨rfl, _, _, _, HF3.out, HW3.out⟩
theorem c73_last0 (w0 w : World) (f o : Nat) (s : Mq) (conn : Int) (vW vC vA : Value) (h : Fr w0 w f o s conn [] vW vC vA) (e kind ref : Int) (bytes text : ByteArray) (vO : Value) (id : Nat) (eb ab pb ib : Nat) (he : w.heap[eb]? = some (.cells #[.int .i64 e] 24 (0, 0))) (ha : w.heap[ab]? = some (.cells #[.int .i64 kind, .string bytes, vO, .int .i64 ref, .string text] 57 (0, 0))) (hp : w.heap[pb]? = some (.cells #[.pointer (some ⟨f, 0, none⟩)] 103 (0, 0))) (hi : w.heap[ib]? = some (.cells #[.int .i64 id] 3 (0, 0))) (hl : s.codes.length < 32) (hib : some ib ≠ vC.ownBlock) (he0 : e = 0) (h1 : 1 ≤ id) (h2 : id ≤ 65535) (hcs : ∀ x ∈ s.codes, x = 0 ∨ x = 128) (htx : text ≠ ⟨#[]⟩) (hk : ref = 3) :
  Calls Tryz.prog 73 #[.pointer (some ⟨eb, 0, none⟩), .pointer (some ⟨ab, 0, none⟩), .pointer (some ⟨pb, 0, none⟩), .pointer (some ⟨ib, 0, none⟩)] w (FPost w0 w f o conn vA vC false { s with codes := [] } [sayAct (enc 9 0 (be16 id ++ (s.codes ++ [0]).map byteOf))]) := by
 subst hk
 subst he0
 have HF := Amk h
 have ce := (bqc he 0).trans (show _ = some (Value.int .i64 0) from rfl)
 have cr := (bqc ha 3).trans (show _ = some (Value.int .i64 3) from rfl)
 have cp := (bqc hp 0).trans (show _ = some (Value.pointer (some ⟨f, 0, none⟩)) from rfl)
 have ci := (bqc hi 0).trans (show _ = some (Value.int .i64 id) from rfl)
 have ct := (bqc ha 4).trans (show _ = some (Value.string text) from rfl)
 have HL := Amk hl
 have HP := Amk hp
 have HA := Amk ha
 have HI := Amk hi
 have HIB := Amk hib
 have HIL := Amk (blt hi)
 obtain ⟨⟨tl⟩⟩ := text
 have htn : tl ≠ [] := by rintro rfl; exact htx rfl
 have hdt : tl.isEmpty = false := by cases tl with | nil => exact absurd rfl htn | cons _ _ => rfl
 have hdt2 : decide (tl = []) = false := decide_eq_false htn
 have HB := Amk (And.intro h1 (And.intro h2 hcs))
 clear h he ha hp hi hl hib h1 h2 hcs htx
 obtain ⟨AC, nC, cC, rfl, HNC⟩ := R_parts HF.out.own.codes
 go_enter Tryz.func73, Tryz.ntmps73
 go_upto_region 14 with (first | (go_at_call 70; refine Calls.mono (unlessQ_yes _) ?_; rintro e2 w2 ⟨rfl, rfl⟩))
 have HFD := Amk HF.out.drew
 have HPD := Amk (blk_drew HP.out)
 have ctd := (And.intro ((bqc HPD.out 0).trans (show _ = some (Value.pointer (some ⟨f, 0, none⟩)) from rfl)) HFD.out.c0)
 have c6 := (HF.out.cell 6).trans (show _ = some (Value.slice AC nC cC) from rfl)
 have c6d := (HFD.out.cell 6).trans (show _ = some (Value.slice AC nC cC) from rfl)
 have c6a := ((HF.out.alloc (.cells #[.int .i64 0] 3)).cell 6).trans (show _ = some (Value.slice AC nC cC) from rfl)
 go_cut [] (fun wx => ∃ A2 n2 c2, Aside0 (Fr w0 wx f o { s with codes := (s.codes ++ [0]) } conn [] vW (.slice A2 n2 c2) vA) ∧ Aside0 (Went w2 wx f o vA (.slice AC nC cC) vA (.slice A2 n2 c2)) ∧ Aside0 (wx.heap[pb]? = some (.cells #[.pointer (some ⟨f, 0, none⟩)] 103 (0, 0))) ∧ Aside0 (wx.heap[ab]? = some (.cells #[.int .i64 kind, .string bytes, vO, .int .i64 3, .string ⟨⟨tl⟩⟩] 57 (0, 0))) ∧ Aside0 (wx.heap[ib]? = some (.cells #[.int .i64 id] 3 (0, 0))))
 case first =>
  refine wp_region_held_drew (S := (fun W => W.cell? ⟨pb, 0, none⟩ = some (.pointer (some ⟨f, 0, none⟩)) ∧ W.cell? ⟨f, 0, none⟩ = some (.pointer (some ⟨o, 0, none⟩)))) (by kernel_rfl) ctd (fun hHeld => ?_)
  refine tkH 0 ?_ hHeld ?_ ?_; rotate_left; (focus intro w_ hSw; (try dsimp only at hSw); go_simp; (try simp only [hSw]); (try rfl)); rotate_left; try simp only [Lga, Lgz, Lgs, Act.put, Lsa, Lsz, Lss]
  refine tkH 1 ?_ hHeld ?_ ?_; rotate_left; (focus intro w_ hSw; (try dsimp only at hSw); go_simp; (try simp only [hSw]); (try rfl)); rotate_left; try simp only [Lga, Lgz, Lgs, Act.put, Lsa, Lsz, Lss]
  refine tkH 2 ?_ hHeld ?_ ?_; rotate_left; (focus intro w_ hSw; (try dsimp only at hSw); go_simp; (try simp only [hSw]); (try rfl)); rotate_left; try simp only [Lga, Lgz, Lgs, Act.put, Lsa, Lsz, Lss]
  refine tkH 3 ?_ hHeld ?_ ?_; rotate_left; (focus intro w_ hSw; (try dsimp only at hSw); go_simp; (try simp only [hSw]); (try rfl)); rotate_left; try simp only [Lga, Lgz, Lgs, Act.put, Lsa, Lsz, Lss]
  refine tkH 4 ?_ hHeld ?_ ?_; rotate_left; (focus intro w_ hSw; (try dsimp only at hSw); go_simp; (try simp only [hSw]); (try rfl)); rotate_left; try simp only [Lga, Lgz, Lgs, Act.put, Lsa, Lsz, Lss]
  refine tkH 5 ?_ hHeld ?_ ?_; rotate_left; (focus intro w_ hSw; (try dsimp only at hSw); go_simp; (try simp only [hSw]); (try rfl)); rotate_left; try simp only [Lga, Lgz, Lgs, Act.put, Lsa, Lsz, Lss]
  refine tkH 6 ?_ hHeld ?_ ?_; rotate_left; (focus intro w_ hSw; (try dsimp only at hSw); go_simp; (try simp only [hSw]); (try rfl)); rotate_left; try simp only [Lga, Lgz, Lgs, Act.put, Lsa, Lsz, Lss]
  refine tkH 7 ?_ hHeld ?_ ?_; rotate_left; (focus intro w_ hSw; (try dsimp only at hSw); go_simp; (try simp only [hSw]); (try rfl)); rotate_left; try simp only [Lga, Lgz, Lgs, Act.put, Lsa, Lsz, Lss]
  refine tkH 8 ?_ hHeld ?_ ?_; rotate_left; (focus intro w_ hSw; (try dsimp only at hSw); go_simp; (try simp only [hSw]); (try rfl)); rotate_left; try simp only [Lga, Lgz, Lgs, Act.put, Lsa, Lsz, Lss]
  refine tkH 9 ?_ hHeld ?_ ?_; rotate_left; (focus intro w_ hSw; (try dsimp only at hSw); go_simp; (try simp only [hSw]); (try rfl)); rotate_left; try simp only [Lga, Lgz, Lgs, Act.put, Lsa, Lsz, Lss]
  refine tkH 11 ?_ hHeld ?_ ?_; rotate_left; (focus intro w_ hSw; (try dsimp only at hSw); go_simp; (try simp only [hSw]); (try rfl)); rotate_left; try simp only [Lga, Lgz, Lgs, Act.put, Lsa, Lsz, Lss]
  refine wpAnyH_ready (rs := [10, 12]) (by kernel_rfl) (by simp) ?_
  refine AllReadyH.cons rfl (fun K hK => ?_) (AllReadyH.cons rfl (fun K hK => ?_) AllReadyH.nil)
  ·
   go_simp
   (first | refine hK.out _ _ (And.intro ((bqc HPD.out 0).trans (show _ = some (Value.pointer (some ⟨f, 0, none⟩)) from rfl)) HFD.out.c0) (fun hHeld => ?_) | refine hK _ _ (And.intro ((bqc HPD.out 0).trans (show _ = some (Value.pointer (some ⟨f, 0, none⟩)) from rfl)) HFD.out.c0) (fun hHeld => ?_)); try simp only [Lga, Lgz, Lgs, Act.put, Lsa, Lsz, Lss]
   refine wpAnyH_ready (rs := [12]) (by kernel_rfl) (by simp) ?_
   refine AllReadyH.cons rfl (fun K hK => ?_) AllReadyH.nil
   go_simp
   (first | refine hK.out _ _ (And.intro ((bqc (blk_drew (bka HP.out _)) 0).trans (show _ = some (Value.pointer (some ⟨f, 0, none⟩)) from rfl)) (HF.out.alloc _).drew.c0) (fun hHeld => ?_) | refine hK _ _ (And.intro ((bqc (blk_drew (bka HP.out _)) 0).trans (show _ = some (Value.pointer (some ⟨f, 0, none⟩)) from rfl)) (HF.out.alloc _).drew.c0) (fun hHeld => ?_)); try simp only [Lga, Lgz, Lgs, Act.put, Lsa, Lsz, Lss]
   refine wpAnyH_ready (rs := [13]) (by kernel_rfl) (by simp) ?_
   refine AllReadyH.cons rfl (fun K hK => ?_) AllReadyH.nil
   refine Kd.R_append_step (Kd.int .i64) (w0 := w0) (W := w2.drew) w0.heap.size (by kernel_rfl) (.tmp 53) (.tmp 55) 43 3 _ 8 (by kernel_rfl) Tryz.underlying43 info3 rfl (by decide) (by decide) (.slice AC nC cC) s.codes 0 [.int .i64 0] (fun _ => True) (fun k => True ∧ some k ≠ (Value.slice AC nC cC).ownBlock) (by kernel_rfl) (by kernel_rfl) rfl (fun _ hk => hk) (fun _ _ => trivial) HFD.out.own.codes HFD.out.bel HFD.out.sz (by have := HL.out; omega) ?_
   intro v2 w5 hR hB hG hat
   have HR2 := Amk hR; have HB2 := Amk hB; have HG2 := Amk hG; have HAT2 := Amk hat
   clear hR hB hG hat
   obtain ⟨A2, n2, c2, rfl, HN2⟩ := R_parts HR2.out
   have HM2 := Amk (HFD.out.grownC HG2.out HB2.out)
   have HP2 := Amk (blk_grown HPD.out HG2.out (Kd.R_ne HFD.out.own.codes HPD.out (by decide)))
   have ct2 := And.intro ((bqc HP2.out 0).trans (show _ = some (Value.pointer (some ⟨f, 0, none⟩)) from rfl)) ((bqc HM2.out.1 0).trans (show _ = some (Value.pointer (some ⟨o, 0, none⟩)) from rfl))
   have HF6 := Amk (HFD.out.pushC HG2.out HB2.out HR2.out)
   have HW6 := Amk (HFD.out.pushedC HG2.out HAT2.out)
   have HP6 := Amk (blk_set_ne HP2.out HM2.out.2 (by decide) 6 (.slice A2 n2 c2))
   have zf := blk_frozen HM2.out.2 6
   have cz := (bqc HM2.out.2 6).trans (show _ = some (Value.slice AC nC cC) from rfl)
   (first | refine hK.out _ _ ct2 (fun hHeld => ?_) | refine hK _ _ ct2 (fun hHeld => ?_)); try simp only [Lga, Lgz, Lgs, Act.put, Lsa, Lsz, Lss]
   refine tkH 14 ?_ hHeld ?_ ?_; rotate_left; (focus intro w_ hSw; (try dsimp only at hSw); go_simp; (try simp only [hSw]); (try rfl)); rotate_left; try simp only [Lga, Lgz, Lgs, Act.put, Lsa, Lsz, Lss]
   refine tkH 15 ?_ hHeld ?_ ?_; rotate_left; (focus intro w_ hSw; (try dsimp only at hSw); go_simp; (try simp only [hSw]); (try rfl)); rotate_left; try simp only [Lga, Lgz, Lgs, Act.put, Lsa, Lsz, Lss]
   refine wpAnyH_ready (rs := [16]) (by kernel_rfl) (by simp) ?_
   refine AllReadyH.cons rfl (fun K hK => ?_) AllReadyH.nil
   go_simp
   (first | refine hK.out _ _ (And.intro ((bqc HP6.out 0).trans (show _ = some (Value.pointer (some ⟨f, 0, none⟩)) from rfl)) HF6.out.c0) (fun hHeld => ?_) | refine hK _ _ (And.intro ((bqc HP6.out 0).trans (show _ = some (Value.pointer (some ⟨f, 0, none⟩)) from rfl)) HF6.out.c0) (fun hHeld => ?_)); try simp only [Lga, Lgz, Lgs, Act.put, Lsa, Lsz, Lss]
   refine wpAnyH_done (by kernel_rfl) ?_ _
   clear hK K
   go_wp2_with fail
   go_meet
   exact ⟨A2, n2, c2, HF6, ⟨Went.after (bdr (Below.refl _ _)) HW6.out⟩, HP6, ⟨blk_set_ne (blk_grown (blk_drew HA.out) HG2.out (Kd.R_ne HFD.out.own.codes (blk_drew HA.out) (by decide))) HM2.out.2 (by decide) 6 _⟩, ⟨blk_set_ne (blk_grown (blk_drew HI.out) HG2.out HIB.out) HM2.out.2 (by decide) 6 _⟩⟩
  ·
   go_simp
   (first | refine hK.out _ _ (And.intro ((bqc (blk_drew (bka HP.out _)) 0).trans (show _ = some (Value.pointer (some ⟨f, 0, none⟩)) from rfl)) (HF.out.alloc _).drew.c0) (fun hHeld => ?_) | refine hK _ _ (And.intro ((bqc (blk_drew (bka HP.out _)) 0).trans (show _ = some (Value.pointer (some ⟨f, 0, none⟩)) from rfl)) (HF.out.alloc _).drew.c0) (fun hHeld => ?_)); try simp only [Lga, Lgz, Lgs, Act.put, Lsa, Lsz, Lss]
   refine wpAnyH_ready (rs := [10]) (by kernel_rfl) (by simp) ?_
   refine AllReadyH.cons rfl (fun K hK => ?_) AllReadyH.nil
   go_simp
   (first | refine hK.out _ _ (And.intro ((bqc (blk_drew (bka HP.out _)) 0).trans (show _ = some (Value.pointer (some ⟨f, 0, none⟩)) from rfl)) (HF.out.alloc _).drew.c0) (fun hHeld => ?_) | refine hK _ _ (And.intro ((bqc (blk_drew (bka HP.out _)) 0).trans (show _ = some (Value.pointer (some ⟨f, 0, none⟩)) from rfl)) (HF.out.alloc _).drew.c0) (fun hHeld => ?_)); try simp only [Lga, Lgz, Lgs, Act.put, Lsa, Lsz, Lss]
   refine wpAnyH_ready (rs := [13]) (by kernel_rfl) (by simp) ?_
   refine AllReadyH.cons rfl (fun K hK => ?_) AllReadyH.nil
   refine Kd.R_append_step (Kd.int .i64) (w0 := w0) (W := w2.drew) w0.heap.size (by kernel_rfl) (.tmp 53) (.tmp 55) 43 3 _ 8 (by kernel_rfl) Tryz.underlying43 info3 rfl (by decide) (by decide) (.slice AC nC cC) s.codes 0 [.int .i64 0] (fun _ => True) (fun k => True ∧ some k ≠ (Value.slice AC nC cC).ownBlock) (by kernel_rfl) (by kernel_rfl) rfl (fun _ hk => hk) (fun _ _ => trivial) HFD.out.own.codes HFD.out.bel HFD.out.sz (by have := HL.out; omega) ?_
   intro v2 w5 hR hB hG hat
   have HR2 := Amk hR; have HB2 := Amk hB; have HG2 := Amk hG; have HAT2 := Amk hat
   clear hR hB hG hat
   obtain ⟨A2, n2, c2, rfl, HN2⟩ := R_parts HR2.out
   have HM2 := Amk (HFD.out.grownC HG2.out HB2.out)
   have HP2 := Amk (blk_grown HPD.out HG2.out (Kd.R_ne HFD.out.own.codes HPD.out (by decide)))
   have ct2 := And.intro ((bqc HP2.out 0).trans (show _ = some (Value.pointer (some ⟨f, 0, none⟩)) from rfl)) ((bqc HM2.out.1 0).trans (show _ = some (Value.pointer (some ⟨o, 0, none⟩)) from rfl))
   have HF6 := Amk (HFD.out.pushC HG2.out HB2.out HR2.out)
   have HW6 := Amk (HFD.out.pushedC HG2.out HAT2.out)
   have HP6 := Amk (blk_set_ne HP2.out HM2.out.2 (by decide) 6 (.slice A2 n2 c2))
   have zf := blk_frozen HM2.out.2 6
   have cz := (bqc HM2.out.2 6).trans (show _ = some (Value.slice AC nC cC) from rfl)
   (first | refine hK.out _ _ ct2 (fun hHeld => ?_) | refine hK _ _ ct2 (fun hHeld => ?_)); try simp only [Lga, Lgz, Lgs, Act.put, Lsa, Lsz, Lss]
   refine tkH 14 ?_ hHeld ?_ ?_; rotate_left; (focus intro w_ hSw; (try dsimp only at hSw); go_simp; (try simp only [hSw]); (try rfl)); rotate_left; try simp only [Lga, Lgz, Lgs, Act.put, Lsa, Lsz, Lss]
   refine tkH 15 ?_ hHeld ?_ ?_; rotate_left; (focus intro w_ hSw; (try dsimp only at hSw); go_simp; (try simp only [hSw]); (try rfl)); rotate_left; try simp only [Lga, Lgz, Lgs, Act.put, Lsa, Lsz, Lss]
   refine wpAnyH_ready (rs := [16]) (by kernel_rfl) (by simp) ?_
   refine AllReadyH.cons rfl (fun K hK => ?_) AllReadyH.nil
   go_simp
   (first | refine hK.out _ _ (And.intro ((bqc HP6.out 0).trans (show _ = some (Value.pointer (some ⟨f, 0, none⟩)) from rfl)) HF6.out.c0) (fun hHeld => ?_) | refine hK _ _ (And.intro ((bqc HP6.out 0).trans (show _ = some (Value.pointer (some ⟨f, 0, none⟩)) from rfl)) HF6.out.c0) (fun hHeld => ?_)); try simp only [Lga, Lgz, Lgs, Act.put, Lsa, Lsz, Lss]
   refine wpAnyH_done (by kernel_rfl) ?_ _
   clear hK K
   go_wp2_with fail
   go_meet
   exact ⟨A2, n2, c2, HF6, ⟨Went.after (bdr (Below.refl _ _)) HW6.out⟩, HP6, ⟨blk_set_ne (blk_grown (blk_drew HA.out) HG2.out (Kd.R_ne HFD.out.own.codes (blk_drew HA.out) (by decide))) HM2.out.2 (by decide) 6 _⟩, ⟨blk_set_ne (blk_grown (blk_drew HI.out) HG2.out HIB.out) HM2.out.2 (by decide) 6 _⟩⟩
 case rest =>
  obtain ⟨A2, n2, c2, HF3, HW3, HP3, HA3, HI3⟩ := hcut
  have ct := (bqc HA3.out 4).trans (show _ = some (Value.string ⟨⟨tl⟩⟩) from rfl)
  clear HF HFD HPD ctd c6 c6d c6a HP HA HI
  have HC3 := Amk (Kd.R_reads' HF3.out.own.codes)
  have HE : Aside0 (∀ W, Below wc.heap.size wc W → Calls Tryz.prog 76 #[.agg ((subackP id (s.codes ++ [0])).pk (.slice none 0 0) (.slice A2 n2 c2)).cells] W (EPost W (enc 9 0 (be16 id ++ ((s.codes ++ [0])).map byteOf)) 0)) := ⟨fun W hB => by
   obtain ⟨hn, hc, hC⟩ := HC3.out
   change n2 = ((s.codes ++ [0])).length at hn
   change (Kd.int .i64).C wc A2 ((s.codes ++ [0])).length (s.codes ++ [0]) at hC
   rw [hn] at hc ⊢
   exact suback_calls id (s.codes ++ [0]) A2 c2 HB.out.1 HB.out.2.1 (by simp) (by have := HL.out; simp; omega) (by intro x hx; rcases List.mem_append.1 hx with hx | hx; (exact HB.out.2.2 x hx); (rw [List.mem_singleton] at hx; subst hx; simp)) W (Kd.C_below hC hB) hc⟩
  have HI3' : Aside0 (some ib ≠ (Value.slice A2 n2 c2).ownBlock) := ⟨by
   rcases HW3.out.atC with e | e | ⟨b, e, hb⟩
   ·
    rw [e]; exact HIB.out
   ·
    rw [e]; simp
   ·
    rw [e]; intro h; injection h with h; have := HIL.out; omega⟩
  have ct' := ct
  have HFD := Amk HF3.out.drew
  have HPD := Amk (blk_drew HP3.out)
  have HID := Amk (blk_drew HI3.out)
  have ct3 := (And.intro ((bqc HPD.out 0).trans (show _ = some (Value.pointer (some ⟨f, 0, none⟩)) from rfl)) (And.intro HFD.out.c0 ((bqc HID.out 0).trans (show _ = some (Value.int .i64 id) from rfl))))
  have c6 := (HF3.out.cell 6).trans (show _ = some (Value.slice A2 n2 c2) from rfl)
  go_upto_region 16 with (fail)
  refine wp_region_held_drew (S := (fun W => W.cell? ⟨pb, 0, none⟩ = some (.pointer (some ⟨f, 0, none⟩)) ∧ W.cell? ⟨f, 0, none⟩ = some (.pointer (some ⟨o, 0, none⟩)) ∧ W.cell? ⟨ib, 0, none⟩ = some (.int .i64 id))) (by kernel_rfl) ct3 (fun hHeld => ?_)
  refine tkH 0 ?_ hHeld ?_ ?_; rotate_left; (focus intro w_ hSw; (try dsimp only at hSw); go_simp; (try simp only [hSw]); (try rfl)); rotate_left; try simp only [Lga, Lgz, Lgs, Act.put, Lsa, Lsz, Lss]
  refine tkH 1 ?_ hHeld ?_ ?_; rotate_left; (focus intro w_ hSw; (try dsimp only at hSw); go_simp; (try simp only [hSw]); (try rfl)); rotate_left; try simp only [Lga, Lgz, Lgs, Act.put, Lsa, Lsz, Lss]
  refine tkH 2 ?_ hHeld ?_ ?_; rotate_left; (focus intro w_ hSw; (try dsimp only at hSw); go_simp; (try simp only [hSw]); (try rfl)); rotate_left; try simp only [Lga, Lgz, Lgs, Act.put, Lsa, Lsz, Lss]
  refine tkH 3 ?_ hHeld ?_ ?_; rotate_left; (focus intro w_ hSw; (try dsimp only at hSw); go_simp; (try simp only [hSw]); (try rfl)); rotate_left; try simp only [Lga, Lgz, Lgs, Act.put, Lsa, Lsz, Lss]
  refine tkH 4 ?_ hHeld ?_ ?_; rotate_left; (focus intro w_ hSw; (try dsimp only at hSw); go_simp; (try simp only [hSw]); (try rfl)); rotate_left; try simp only [Lga, Lgz, Lgs, Act.put, Lsa, Lsz, Lss]
  refine tkH 5 ?_ hHeld ?_ ?_; rotate_left; (focus intro w_ hSw; (try dsimp only at hSw); go_simp; (try simp only [hSw]); (try rfl)); rotate_left; try simp only [Lga, Lgz, Lgs, Act.put, Lsa, Lsz, Lss]
  refine tkH 6 ?_ hHeld ?_ ?_; rotate_left; (focus intro w_ hSw; (try dsimp only at hSw); go_simp; (try simp only [hSw]); (try rfl)); rotate_left; try simp only [Lga, Lgz, Lgs, Act.put, Lsa, Lsz, Lss]
  refine tkH 7 ?_ hHeld ?_ ?_; rotate_left; (focus intro w_ hSw; (try dsimp only at hSw); go_simp; (try simp only [hSw]); (try rfl)); rotate_left; try simp only [Lga, Lgz, Lgs, Act.put, Lsa, Lsz, Lss]
  refine wpAnyH_ready (rs := [8]) (by kernel_rfl) (by simp) ?_
  refine AllReadyH.cons rfl (fun K hK => ?_) AllReadyH.nil
  go_simp
  (first | refine hK.out _ _ (And.intro ((bqc HPD.out 0).trans (show _ = some (Value.pointer (some ⟨f, 0, none⟩)) from rfl)) (And.intro HFD.out.c0 ((bqc HID.out 0).trans (show _ = some (Value.int .i64 id) from rfl)))) (fun hHeld => ?_) | refine hK _ _ (And.intro ((bqc HPD.out 0).trans (show _ = some (Value.pointer (some ⟨f, 0, none⟩)) from rfl)) (And.intro HFD.out.c0 ((bqc HID.out 0).trans (show _ = some (Value.int .i64 id) from rfl)))) (fun hHeld => ?_)); try simp only [Lga, Lgz, Lgs, Act.put, Lsa, Lsz, Lss]
  refine tkH 9 ?_ hHeld ?_ ?_; rotate_left; (focus intro w_ hSw; (try dsimp only at hSw); go_simp; (try rfl)); rotate_left; try simp only [Lga, Lgz, Lgs, Act.put, Lsa, Lsz, Lss]
  refine wpAnyH_ready (rs := [10]) (by kernel_rfl) (by simp) ?_
  refine AllReadyH.cons rfl (fun K hK => ?_) AllReadyH.nil
  go_simp
  go_wp2_with (go_at_call 75; refine Calls.mono (say_calls w0 _ f o _ conn [] _ _ _ HFD.out (by simp) (subackP id (s.codes ++ [0])) _ _ _ _ (fun W hB => HE.out W (below_then (bdr (Below.refl _ _)) (Nat.le_refl _) hB))) ?_; rintro e1 w7 ⟨rfl, vW', vC', vA', hf, hk⟩; have HF7 := Amk hf; have HK7 := Amk hk; have HP7 := Amk (blk_kept HPD.out hk.kept (HFD.out.farT HPD.out (by decide))); have HI7 := Amk (blk_kept HID.out hk.kept (HFD.out.farI HID.out HI3'.out)); clear hf hk)
  (first | refine hK.out _ _ (And.intro ((bqc HP7.out 0).trans (show _ = some (Value.pointer (some ⟨f, 0, none⟩)) from rfl)) (And.intro HF7.out.c0 ((bqc HI7.out 0).trans (show _ = some (Value.int .i64 id) from rfl)))) (fun hHeld => ?_) | refine hK _ _ (And.intro ((bqc HP7.out 0).trans (show _ = some (Value.pointer (some ⟨f, 0, none⟩)) from rfl)) (And.intro HF7.out.c0 ((bqc HI7.out 0).trans (show _ = some (Value.int .i64 id) from rfl)))) (fun hHeld => ?_)); try simp only [Lga, Lgz, Lgs, Act.put, Lsa, Lsz, Lss]
  refine wpAnyH_done (by kernel_rfl) ?_ _
  clear hK K
  have cp7 := (bqc HP7.out 0).trans (show _ = some (Value.pointer (some ⟨f, 0, none⟩)) from rfl)
  have c07 := HF7.out.c0
  have zo7 := HF7.out.zo 6
  have co7 := (HF7.out.cell 6).trans (show _ = some vC' from rfl)
  have HF8 := Amk (HF7.out.setO (s' := { s with codes := [] }) 6 (.slice none 0 0) rfl HF7.out.own.will (Kd.R_nil _ _ _ _ _))
  have HW8 := Amk ((Went.trans (HW3.out.below (bdr (Below.refl _ _))) HK7.out).trans (HF7.out.seto 6 (.slice none 0 0)))
  go_wp2_with fail
  go_end0
  exact ⟨rfl, _, _, _, HF8.out, ⟨HW8.out.kept, HW8.out.atA, .inr (.inl rfl)⟩⟩
theorem c73_bind1 (w0 w : World) (f o : Nat) (s : Mq) (conn : Int) (vW vC vA : Value) (h : Fr w0 w f o s conn [] vW vC vA) (e kind ref : Int) (bytes text : ByteArray) (vO : Value) (id : Nat) (eb ab pb ib : Nat) (he : w.heap[eb]? = some (.cells #[.int .i64 e] 24 (0, 0))) (ha : w.heap[ab]? = some (.cells #[.int .i64 kind, .string bytes, vO, .int .i64 ref, .string text] 57 (0, 0))) (hp : w.heap[pb]? = some (.cells #[.pointer (some ⟨f, 0, none⟩)] 103 (0, 0))) (hi : w.heap[ib]? = some (.cells #[.int .i64 id] 3 (0, 0))) (hl : s.codes.length < 32) (hib : some ib ≠ vC.ownBlock) (hne : e ≠ 0) (hpf : passedF 3 e = true) (htx : text = ⟨#[]⟩) (hk : ref = 3) :
  Calls Tryz.prog 73 #[.pointer (some ⟨eb, 0, none⟩), .pointer (some ⟨ab, 0, none⟩), .pointer (some ⟨pb, 0, none⟩), .pointer (some ⟨ib, 0, none⟩)] w (FPost w0 w f o conn vA vC false { s with codes := (s.codes ++ [128]) } []) := by
 subst hk
 have HF := Amk h
 have ce := (bqc he 0).trans (show _ = some (Value.int .i64 e) from rfl)
 have cr := (bqc ha 3).trans (show _ = some (Value.int .i64 3) from rfl)
 have cp := (bqc hp 0).trans (show _ = some (Value.pointer (some ⟨f, 0, none⟩)) from rfl)
 have ci := (bqc hi 0).trans (show _ = some (Value.int .i64 id) from rfl)
 have ct := (bqc ha 4).trans (show _ = some (Value.string text) from rfl)
 have HL := Amk hl
 have HP := Amk hp
 have HA := Amk ha
 have HI := Amk hi
 have HIB := Amk hib
 have HIL := Amk (blt hi)
 have HPS : Aside0 (∀ W, Calls Tryz.prog 74 #[.int .i64 3, .int .i64 e] W fun e' w' => e' = .returned (.bool true) ∧ w' = W) := ⟨fun W => hpf ▸ passed_calls 3 e W⟩
 have hd1 : (e == 0) = false := by simpa using hne
 have hd2 : decide (e = 0) = false := decide_eq_false hne
 have hd3 : (e != 0) = true := by simpa using hne
 subst htx
 clear h he ha hp hi hl hib hne hpf
 obtain ⟨AC, nC, cC, rfl, HNC⟩ := R_parts HF.out.own.codes
 go_enter Tryz.func73, Tryz.ntmps73
 go_upto_region 14 with (first | (go_at_call 74; refine Calls.mono (HPS.out _) ?_; rintro e1 w1 ⟨rfl, rfl⟩) | (go_at_call 70; refine Calls.mono (unlessQ_yes _) ?_; rintro e2 w2 ⟨rfl, rfl⟩))
 have HFD := Amk HF.out.drew
 have HPD := Amk (blk_drew HP.out)
 have ctd := (And.intro ((bqc HPD.out 0).trans (show _ = some (Value.pointer (some ⟨f, 0, none⟩)) from rfl)) HFD.out.c0)
 have c6 := (HF.out.cell 6).trans (show _ = some (Value.slice AC nC cC) from rfl)
 have c6d := (HFD.out.cell 6).trans (show _ = some (Value.slice AC nC cC) from rfl)
 have c6a := ((HF.out.alloc (.cells #[.int .i64 128] 3)).cell 6).trans (show _ = some (Value.slice AC nC cC) from rfl)
 go_cut [] (fun wx => ∃ A2 n2 c2, Aside0 (Fr w0 wx f o { s with codes := (s.codes ++ [128]) } conn [] vW (.slice A2 n2 c2) vA) ∧ Aside0 (Went w2 wx f o vA (.slice AC nC cC) vA (.slice A2 n2 c2)) ∧ Aside0 (wx.heap[pb]? = some (.cells #[.pointer (some ⟨f, 0, none⟩)] 103 (0, 0))) ∧ Aside0 (wx.heap[ab]? = some (.cells #[.int .i64 kind, .string bytes, vO, .int .i64 3, .string ⟨#[]⟩] 57 (0, 0))) ∧ Aside0 (wx.heap[ib]? = some (.cells #[.int .i64 id] 3 (0, 0))))
 case first =>
  refine wp_region_held_drew (S := (fun W => W.cell? ⟨pb, 0, none⟩ = some (.pointer (some ⟨f, 0, none⟩)) ∧ W.cell? ⟨f, 0, none⟩ = some (.pointer (some ⟨o, 0, none⟩)))) (by kernel_rfl) ctd (fun hHeld => ?_)
  refine tkH 0 ?_ hHeld ?_ ?_; rotate_left; (focus intro w_ hSw; (try dsimp only at hSw); go_simp; (try simp only [hSw]); (try rfl)); rotate_left; try simp only [Lga, Lgz, Lgs, Act.put, Lsa, Lsz, Lss]
  refine tkH 1 ?_ hHeld ?_ ?_; rotate_left; (focus intro w_ hSw; (try dsimp only at hSw); go_simp; (try simp only [hSw]); (try rfl)); rotate_left; try simp only [Lga, Lgz, Lgs, Act.put, Lsa, Lsz, Lss]
  refine tkH 2 ?_ hHeld ?_ ?_; rotate_left; (focus intro w_ hSw; (try dsimp only at hSw); go_simp; (try simp only [hSw]); (try rfl)); rotate_left; try simp only [Lga, Lgz, Lgs, Act.put, Lsa, Lsz, Lss]
  refine tkH 3 ?_ hHeld ?_ ?_; rotate_left; (focus intro w_ hSw; (try dsimp only at hSw); go_simp; (try simp only [hSw]); (try rfl)); rotate_left; try simp only [Lga, Lgz, Lgs, Act.put, Lsa, Lsz, Lss]
  refine tkH 4 ?_ hHeld ?_ ?_; rotate_left; (focus intro w_ hSw; (try dsimp only at hSw); go_simp; (try simp only [hSw]); (try rfl)); rotate_left; try simp only [Lga, Lgz, Lgs, Act.put, Lsa, Lsz, Lss]
  refine tkH 5 ?_ hHeld ?_ ?_; rotate_left; (focus intro w_ hSw; (try dsimp only at hSw); go_simp; (try simp only [hSw]); (try rfl)); rotate_left; try simp only [Lga, Lgz, Lgs, Act.put, Lsa, Lsz, Lss]
  refine tkH 6 ?_ hHeld ?_ ?_; rotate_left; (focus intro w_ hSw; (try dsimp only at hSw); go_simp; (try simp only [hSw]); (try rfl)); rotate_left; try simp only [Lga, Lgz, Lgs, Act.put, Lsa, Lsz, Lss]
  refine tkH 7 ?_ hHeld ?_ ?_; rotate_left; (focus intro w_ hSw; (try dsimp only at hSw); go_simp; (try simp only [hSw]); (try rfl)); rotate_left; try simp only [Lga, Lgz, Lgs, Act.put, Lsa, Lsz, Lss]
  refine tkH 8 ?_ hHeld ?_ ?_; rotate_left; (focus intro w_ hSw; (try dsimp only at hSw); go_simp; (try simp only [hSw]); (try rfl)); rotate_left; try simp only [Lga, Lgz, Lgs, Act.put, Lsa, Lsz, Lss]
  refine tkH 9 ?_ hHeld ?_ ?_; rotate_left; (focus intro w_ hSw; (try dsimp only at hSw); go_simp; (try simp only [hSw]); (try rfl)); rotate_left; try simp only [Lga, Lgz, Lgs, Act.put, Lsa, Lsz, Lss]
  refine tkH 11 ?_ hHeld ?_ ?_; rotate_left; (focus intro w_ hSw; (try dsimp only at hSw); go_simp; (try simp only [hSw]); (try rfl)); rotate_left; try simp only [Lga, Lgz, Lgs, Act.put, Lsa, Lsz, Lss]
  refine wpAnyH_ready (rs := [10, 12]) (by kernel_rfl) (by simp) ?_
  refine AllReadyH.cons rfl (fun K hK => ?_) (AllReadyH.cons rfl (fun K hK => ?_) AllReadyH.nil)
  ·
   go_simp
   (first | refine hK.out _ _ (And.intro ((bqc HPD.out 0).trans (show _ = some (Value.pointer (some ⟨f, 0, none⟩)) from rfl)) HFD.out.c0) (fun hHeld => ?_) | refine hK _ _ (And.intro ((bqc HPD.out 0).trans (show _ = some (Value.pointer (some ⟨f, 0, none⟩)) from rfl)) HFD.out.c0) (fun hHeld => ?_)); try simp only [Lga, Lgz, Lgs, Act.put, Lsa, Lsz, Lss]
   refine wpAnyH_ready (rs := [12]) (by kernel_rfl) (by simp) ?_
   refine AllReadyH.cons rfl (fun K hK => ?_) AllReadyH.nil
   go_simp
   (first | refine hK.out _ _ (And.intro ((bqc (blk_drew (bka HP.out _)) 0).trans (show _ = some (Value.pointer (some ⟨f, 0, none⟩)) from rfl)) (HF.out.alloc _).drew.c0) (fun hHeld => ?_) | refine hK _ _ (And.intro ((bqc (blk_drew (bka HP.out _)) 0).trans (show _ = some (Value.pointer (some ⟨f, 0, none⟩)) from rfl)) (HF.out.alloc _).drew.c0) (fun hHeld => ?_)); try simp only [Lga, Lgz, Lgs, Act.put, Lsa, Lsz, Lss]
   refine wpAnyH_ready (rs := [13]) (by kernel_rfl) (by simp) ?_
   refine AllReadyH.cons rfl (fun K hK => ?_) AllReadyH.nil
   refine Kd.R_append_step (Kd.int .i64) (w0 := w0) (W := w2.drew) w0.heap.size (by kernel_rfl) (.tmp 53) (.tmp 55) 43 3 _ 8 (by kernel_rfl) Tryz.underlying43 info3 rfl (by decide) (by decide) (.slice AC nC cC) s.codes 128 [.int .i64 128] (fun _ => True) (fun k => True ∧ some k ≠ (Value.slice AC nC cC).ownBlock) (by kernel_rfl) (by kernel_rfl) rfl (fun _ hk => hk) (fun _ _ => trivial) HFD.out.own.codes HFD.out.bel HFD.out.sz (by have := HL.out; omega) ?_
   intro v2 w5 hR hB hG hat
   have HR2 := Amk hR; have HB2 := Amk hB; have HG2 := Amk hG; have HAT2 := Amk hat
   clear hR hB hG hat
   obtain ⟨A2, n2, c2, rfl, HN2⟩ := R_parts HR2.out
   have HM2 := Amk (HFD.out.grownC HG2.out HB2.out)
   have HP2 := Amk (blk_grown HPD.out HG2.out (Kd.R_ne HFD.out.own.codes HPD.out (by decide)))
   have ct2 := And.intro ((bqc HP2.out 0).trans (show _ = some (Value.pointer (some ⟨f, 0, none⟩)) from rfl)) ((bqc HM2.out.1 0).trans (show _ = some (Value.pointer (some ⟨o, 0, none⟩)) from rfl))
   have HF6 := Amk (HFD.out.pushC HG2.out HB2.out HR2.out)
   have HW6 := Amk (HFD.out.pushedC HG2.out HAT2.out)
   have HP6 := Amk (blk_set_ne HP2.out HM2.out.2 (by decide) 6 (.slice A2 n2 c2))
   have zf := blk_frozen HM2.out.2 6
   have cz := (bqc HM2.out.2 6).trans (show _ = some (Value.slice AC nC cC) from rfl)
   (first | refine hK.out _ _ ct2 (fun hHeld => ?_) | refine hK _ _ ct2 (fun hHeld => ?_)); try simp only [Lga, Lgz, Lgs, Act.put, Lsa, Lsz, Lss]
   refine tkH 14 ?_ hHeld ?_ ?_; rotate_left; (focus intro w_ hSw; (try dsimp only at hSw); go_simp; (try simp only [hSw]); (try rfl)); rotate_left; try simp only [Lga, Lgz, Lgs, Act.put, Lsa, Lsz, Lss]
   refine tkH 15 ?_ hHeld ?_ ?_; rotate_left; (focus intro w_ hSw; (try dsimp only at hSw); go_simp; (try simp only [hSw]); (try rfl)); rotate_left; try simp only [Lga, Lgz, Lgs, Act.put, Lsa, Lsz, Lss]
   refine wpAnyH_ready (rs := [16]) (by kernel_rfl) (by simp) ?_
   refine AllReadyH.cons rfl (fun K hK => ?_) AllReadyH.nil
   go_simp
   (first | refine hK.out _ _ (And.intro ((bqc HP6.out 0).trans (show _ = some (Value.pointer (some ⟨f, 0, none⟩)) from rfl)) HF6.out.c0) (fun hHeld => ?_) | refine hK _ _ (And.intro ((bqc HP6.out 0).trans (show _ = some (Value.pointer (some ⟨f, 0, none⟩)) from rfl)) HF6.out.c0) (fun hHeld => ?_)); try simp only [Lga, Lgz, Lgs, Act.put, Lsa, Lsz, Lss]
   refine wpAnyH_done (by kernel_rfl) ?_ _
   clear hK K
   go_wp2_with fail
   go_meet
   exact ⟨A2, n2, c2, HF6, ⟨Went.after (bdr (Below.refl _ _)) HW6.out⟩, HP6, ⟨blk_set_ne (blk_grown (blk_drew HA.out) HG2.out (Kd.R_ne HFD.out.own.codes (blk_drew HA.out) (by decide))) HM2.out.2 (by decide) 6 _⟩, ⟨blk_set_ne (blk_grown (blk_drew HI.out) HG2.out HIB.out) HM2.out.2 (by decide) 6 _⟩⟩
  ·
   go_simp
   (first | refine hK.out _ _ (And.intro ((bqc (blk_drew (bka HP.out _)) 0).trans (show _ = some (Value.pointer (some ⟨f, 0, none⟩)) from rfl)) (HF.out.alloc _).drew.c0) (fun hHeld => ?_) | refine hK _ _ (And.intro ((bqc (blk_drew (bka HP.out _)) 0).trans (show _ = some (Value.pointer (some ⟨f, 0, none⟩)) from rfl)) (HF.out.alloc _).drew.c0) (fun hHeld => ?_)); try simp only [Lga, Lgz, Lgs, Act.put, Lsa, Lsz, Lss]
   refine wpAnyH_ready (rs := [10]) (by kernel_rfl) (by simp) ?_
   refine AllReadyH.cons rfl (fun K hK => ?_) AllReadyH.nil
   go_simp
   (first | refine hK.out _ _ (And.intro ((bqc (blk_drew (bka HP.out _)) 0).trans (show _ = some (Value.pointer (some ⟨f, 0, none⟩)) from rfl)) (HF.out.alloc _).drew.c0) (fun hHeld => ?_) | refine hK _ _ (And.intro ((bqc (blk_drew (bka HP.out _)) 0).trans (show _ = some (Value.pointer (some ⟨f, 0, none⟩)) from rfl)) (HF.out.alloc _).drew.c0) (fun hHeld => ?_)); try simp only [Lga, Lgz, Lgs, Act.put, Lsa, Lsz, Lss]
   refine wpAnyH_ready (rs := [13]) (by kernel_rfl) (by simp) ?_
   refine AllReadyH.cons rfl (fun K hK => ?_) AllReadyH.nil
   refine Kd.R_append_step (Kd.int .i64) (w0 := w0) (W := w2.drew) w0.heap.size (by kernel_rfl) (.tmp 53) (.tmp 55) 43 3 _ 8 (by kernel_rfl) Tryz.underlying43 info3 rfl (by decide) (by decide) (.slice AC nC cC) s.codes 128 [.int .i64 128] (fun _ => True) (fun k => True ∧ some k ≠ (Value.slice AC nC cC).ownBlock) (by kernel_rfl) (by kernel_rfl) rfl (fun _ hk => hk) (fun _ _ => trivial) HFD.out.own.codes HFD.out.bel HFD.out.sz (by have := HL.out; omega) ?_
   intro v2 w5 hR hB hG hat
   have HR2 := Amk hR; have HB2 := Amk hB; have HG2 := Amk hG; have HAT2 := Amk hat
   clear hR hB hG hat
   obtain ⟨A2, n2, c2, rfl, HN2⟩ := R_parts HR2.out
   have HM2 := Amk (HFD.out.grownC HG2.out HB2.out)
   have HP2 := Amk (blk_grown HPD.out HG2.out (Kd.R_ne HFD.out.own.codes HPD.out (by decide)))
   have ct2 := And.intro ((bqc HP2.out 0).trans (show _ = some (Value.pointer (some ⟨f, 0, none⟩)) from rfl)) ((bqc HM2.out.1 0).trans (show _ = some (Value.pointer (some ⟨o, 0, none⟩)) from rfl))
   have HF6 := Amk (HFD.out.pushC HG2.out HB2.out HR2.out)
   have HW6 := Amk (HFD.out.pushedC HG2.out HAT2.out)
   have HP6 := Amk (blk_set_ne HP2.out HM2.out.2 (by decide) 6 (.slice A2 n2 c2))
   have zf := blk_frozen HM2.out.2 6
   have cz := (bqc HM2.out.2 6).trans (show _ = some (Value.slice AC nC cC) from rfl)
   (first | refine hK.out _ _ ct2 (fun hHeld => ?_) | refine hK _ _ ct2 (fun hHeld => ?_)); try simp only [Lga, Lgz, Lgs, Act.put, Lsa, Lsz, Lss]
   refine tkH 14 ?_ hHeld ?_ ?_; rotate_left; (focus intro w_ hSw; (try dsimp only at hSw); go_simp; (try simp only [hSw]); (try rfl)); rotate_left; try simp only [Lga, Lgz, Lgs, Act.put, Lsa, Lsz, Lss]
   refine tkH 15 ?_ hHeld ?_ ?_; rotate_left; (focus intro w_ hSw; (try dsimp only at hSw); go_simp; (try simp only [hSw]); (try rfl)); rotate_left; try simp only [Lga, Lgz, Lgs, Act.put, Lsa, Lsz, Lss]
   refine wpAnyH_ready (rs := [16]) (by kernel_rfl) (by simp) ?_
   refine AllReadyH.cons rfl (fun K hK => ?_) AllReadyH.nil
   go_simp
   (first | refine hK.out _ _ (And.intro ((bqc HP6.out 0).trans (show _ = some (Value.pointer (some ⟨f, 0, none⟩)) from rfl)) HF6.out.c0) (fun hHeld => ?_) | refine hK _ _ (And.intro ((bqc HP6.out 0).trans (show _ = some (Value.pointer (some ⟨f, 0, none⟩)) from rfl)) HF6.out.c0) (fun hHeld => ?_)); try simp only [Lga, Lgz, Lgs, Act.put, Lsa, Lsz, Lss]
   refine wpAnyH_done (by kernel_rfl) ?_ _
   clear hK K
   go_wp2_with fail
   go_meet
   exact ⟨A2, n2, c2, HF6, ⟨Went.after (bdr (Below.refl _ _)) HW6.out⟩, HP6, ⟨blk_set_ne (blk_grown (blk_drew HA.out) HG2.out (Kd.R_ne HFD.out.own.codes (blk_drew HA.out) (by decide))) HM2.out.2 (by decide) 6 _⟩, ⟨blk_set_ne (blk_grown (blk_drew HI.out) HG2.out HIB.out) HM2.out.2 (by decide) 6 _⟩⟩
 case rest =>
  obtain ⟨A2, n2, c2, HF3, HW3, HP3, HA3, HI3⟩ := hcut
  have ct := (bqc HA3.out 4).trans (show _ = some (Value.string ⟨#[]⟩) from rfl)
  clear HF HFD HPD ctd c6 c6d c6a HP HA HI
  go_wp2_with fail
  go_end0
  exact ⟨rfl, _, _, _, HF3.out, HW3.out⟩
theorem c73_last1 (w0 w : World) (f o : Nat) (s : Mq) (conn : Int) (vW vC vA : Value) (h : Fr w0 w f o s conn [] vW vC vA) (e kind ref : Int) (bytes text : ByteArray) (vO : Value) (id : Nat) (eb ab pb ib : Nat) (he : w.heap[eb]? = some (.cells #[.int .i64 e] 24 (0, 0))) (ha : w.heap[ab]? = some (.cells #[.int .i64 kind, .string bytes, vO, .int .i64 ref, .string text] 57 (0, 0))) (hp : w.heap[pb]? = some (.cells #[.pointer (some ⟨f, 0, none⟩)] 103 (0, 0))) (hi : w.heap[ib]? = some (.cells #[.int .i64 id] 3 (0, 0))) (hl : s.codes.length < 32) (hib : some ib ≠ vC.ownBlock) (hne : e ≠ 0) (hpf : passedF 3 e = true) (h1 : 1 ≤ id) (h2 : id ≤ 65535) (hcs : ∀ x ∈ s.codes, x = 0 ∨ x = 128) (htx : text ≠ ⟨#[]⟩) (hk : ref = 3) :
  Calls Tryz.prog 73 #[.pointer (some ⟨eb, 0, none⟩), .pointer (some ⟨ab, 0, none⟩), .pointer (some ⟨pb, 0, none⟩), .pointer (some ⟨ib, 0, none⟩)] w (FPost w0 w f o conn vA vC false { s with codes := [] } [sayAct (enc 9 0 (be16 id ++ (s.codes ++ [128]).map byteOf))]) := by
 subst hk
 have HF := Amk h
 have ce := (bqc he 0).trans (show _ = some (Value.int .i64 e) from rfl)
 have cr := (bqc ha 3).trans (show _ = some (Value.int .i64 3) from rfl)
 have cp := (bqc hp 0).trans (show _ = some (Value.pointer (some ⟨f, 0, none⟩)) from rfl)
 have ci := (bqc hi 0).trans (show _ = some (Value.int .i64 id) from rfl)
 have ct := (bqc ha 4).trans (show _ = some (Value.string text) from rfl)
 have HL := Amk hl
 have HP := Amk hp
 have HA := Amk ha
 have HI := Amk hi
 have HIB := Amk hib
 have HIL := Amk (blt hi)
 have HPS : Aside0 (∀ W, Calls Tryz.prog 74 #[.int .i64 3, .int .i64 e] W fun e' w' => e' = .returned (.bool true) ∧ w' = W) := ⟨fun W => hpf ▸ passed_calls 3 e W⟩
 have hd1 : (e == 0) = false := by simpa using hne
 have hd2 : decide (e = 0) = false := decide_eq_false hne
 have hd3 : (e != 0) = true := by simpa using hne
 obtain ⟨⟨tl⟩⟩ := text
 have htn : tl ≠ [] := by rintro rfl; exact htx rfl
 have hdt : tl.isEmpty = false := by cases tl with | nil => exact absurd rfl htn | cons _ _ => rfl
 have hdt2 : decide (tl = []) = false := decide_eq_false htn
 have HB := Amk (And.intro h1 (And.intro h2 hcs))
 clear h he ha hp hi hl hib hne hpf h1 h2 hcs htx
 obtain ⟨AC, nC, cC, rfl, HNC⟩ := R_parts HF.out.own.codes
 go_enter Tryz.func73, Tryz.ntmps73
 go_upto_region 14 with (first | (go_at_call 74; refine Calls.mono (HPS.out _) ?_; rintro e1 w1 ⟨rfl, rfl⟩) | (go_at_call 70; refine Calls.mono (unlessQ_yes _) ?_; rintro e2 w2 ⟨rfl, rfl⟩))
 have HFD := Amk HF.out.drew
 have HPD := Amk (blk_drew HP.out)
 have ctd := (And.intro ((bqc HPD.out 0).trans (show _ = some (Value.pointer (some ⟨f, 0, none⟩)) from rfl)) HFD.out.c0)
 have c6 := (HF.out.cell 6).trans (show _ = some (Value.slice AC nC cC) from rfl)
 have c6d := (HFD.out.cell 6).trans (show _ = some (Value.slice AC nC cC) from rfl)
 have c6a := ((HF.out.alloc (.cells #[.int .i64 128] 3)).cell 6).trans (show _ = some (Value.slice AC nC cC) from rfl)
 go_cut [] (fun wx => ∃ A2 n2 c2, Aside0 (Fr w0 wx f o { s with codes := (s.codes ++ [128]) } conn [] vW (.slice A2 n2 c2) vA) ∧ Aside0 (Went w2 wx f o vA (.slice AC nC cC) vA (.slice A2 n2 c2)) ∧ Aside0 (wx.heap[pb]? = some (.cells #[.pointer (some ⟨f, 0, none⟩)] 103 (0, 0))) ∧ Aside0 (wx.heap[ab]? = some (.cells #[.int .i64 kind, .string bytes, vO, .int .i64 3, .string ⟨⟨tl⟩⟩] 57 (0, 0))) ∧ Aside0 (wx.heap[ib]? = some (.cells #[.int .i64 id] 3 (0, 0))))
 case first =>
  refine wp_region_held_drew (S := (fun W => W.cell? ⟨pb, 0, none⟩ = some (.pointer (some ⟨f, 0, none⟩)) ∧ W.cell? ⟨f, 0, none⟩ = some (.pointer (some ⟨o, 0, none⟩)))) (by kernel_rfl) ctd (fun hHeld => ?_)
  refine tkH 0 ?_ hHeld ?_ ?_; rotate_left; (focus intro w_ hSw; (try dsimp only at hSw); go_simp; (try simp only [hSw]); (try rfl)); rotate_left; try simp only [Lga, Lgz, Lgs, Act.put, Lsa, Lsz, Lss]
  refine tkH 1 ?_ hHeld ?_ ?_; rotate_left; (focus intro w_ hSw; (try dsimp only at hSw); go_simp; (try simp only [hSw]); (try rfl)); rotate_left; try simp only [Lga, Lgz, Lgs, Act.put, Lsa, Lsz, Lss]
  refine tkH 2 ?_ hHeld ?_ ?_; rotate_left; (focus intro w_ hSw; (try dsimp only at hSw); go_simp; (try simp only [hSw]); (try rfl)); rotate_left; try simp only [Lga, Lgz, Lgs, Act.put, Lsa, Lsz, Lss]
  refine tkH 3 ?_ hHeld ?_ ?_; rotate_left; (focus intro w_ hSw; (try dsimp only at hSw); go_simp; (try simp only [hSw]); (try rfl)); rotate_left; try simp only [Lga, Lgz, Lgs, Act.put, Lsa, Lsz, Lss]
  refine tkH 4 ?_ hHeld ?_ ?_; rotate_left; (focus intro w_ hSw; (try dsimp only at hSw); go_simp; (try simp only [hSw]); (try rfl)); rotate_left; try simp only [Lga, Lgz, Lgs, Act.put, Lsa, Lsz, Lss]
  refine tkH 5 ?_ hHeld ?_ ?_; rotate_left; (focus intro w_ hSw; (try dsimp only at hSw); go_simp; (try simp only [hSw]); (try rfl)); rotate_left; try simp only [Lga, Lgz, Lgs, Act.put, Lsa, Lsz, Lss]
  refine tkH 6 ?_ hHeld ?_ ?_; rotate_left; (focus intro w_ hSw; (try dsimp only at hSw); go_simp; (try simp only [hSw]); (try rfl)); rotate_left; try simp only [Lga, Lgz, Lgs, Act.put, Lsa, Lsz, Lss]
  refine tkH 7 ?_ hHeld ?_ ?_; rotate_left; (focus intro w_ hSw; (try dsimp only at hSw); go_simp; (try simp only [hSw]); (try rfl)); rotate_left; try simp only [Lga, Lgz, Lgs, Act.put, Lsa, Lsz, Lss]
  refine tkH 8 ?_ hHeld ?_ ?_; rotate_left; (focus intro w_ hSw; (try dsimp only at hSw); go_simp; (try simp only [hSw]); (try rfl)); rotate_left; try simp only [Lga, Lgz, Lgs, Act.put, Lsa, Lsz, Lss]
  refine tkH 9 ?_ hHeld ?_ ?_; rotate_left; (focus intro w_ hSw; (try dsimp only at hSw); go_simp; (try simp only [hSw]); (try rfl)); rotate_left; try simp only [Lga, Lgz, Lgs, Act.put, Lsa, Lsz, Lss]
  refine tkH 11 ?_ hHeld ?_ ?_; rotate_left; (focus intro w_ hSw; (try dsimp only at hSw); go_simp; (try simp only [hSw]); (try rfl)); rotate_left; try simp only [Lga, Lgz, Lgs, Act.put, Lsa, Lsz, Lss]
  refine wpAnyH_ready (rs := [10, 12]) (by kernel_rfl) (by simp) ?_
  refine AllReadyH.cons rfl (fun K hK => ?_) (AllReadyH.cons rfl (fun K hK => ?_) AllReadyH.nil)
  ·
   go_simp
   (first | refine hK.out _ _ (And.intro ((bqc HPD.out 0).trans (show _ = some (Value.pointer (some ⟨f, 0, none⟩)) from rfl)) HFD.out.c0) (fun hHeld => ?_) | refine hK _ _ (And.intro ((bqc HPD.out 0).trans (show _ = some (Value.pointer (some ⟨f, 0, none⟩)) from rfl)) HFD.out.c0) (fun hHeld => ?_)); try simp only [Lga, Lgz, Lgs, Act.put, Lsa, Lsz, Lss]
   refine wpAnyH_ready (rs := [12]) (by kernel_rfl) (by simp) ?_
   refine AllReadyH.cons rfl (fun K hK => ?_) AllReadyH.nil
   go_simp
   (first | refine hK.out _ _ (And.intro ((bqc (blk_drew (bka HP.out _)) 0).trans (show _ = some (Value.pointer (some ⟨f, 0, none⟩)) from rfl)) (HF.out.alloc _).drew.c0) (fun hHeld => ?_) | refine hK _ _ (And.intro ((bqc (blk_drew (bka HP.out _)) 0).trans (show _ = some (Value.pointer (some ⟨f, 0, none⟩)) from rfl)) (HF.out.alloc _).drew.c0) (fun hHeld => ?_)); try simp only [Lga, Lgz, Lgs, Act.put, Lsa, Lsz, Lss]
   refine wpAnyH_ready (rs := [13]) (by kernel_rfl) (by simp) ?_
   refine AllReadyH.cons rfl (fun K hK => ?_) AllReadyH.nil
   refine Kd.R_append_step (Kd.int .i64) (w0 := w0) (W := w2.drew) w0.heap.size (by kernel_rfl) (.tmp 53) (.tmp 55) 43 3 _ 8 (by kernel_rfl) Tryz.underlying43 info3 rfl (by decide) (by decide) (.slice AC nC cC) s.codes 128 [.int .i64 128] (fun _ => True) (fun k => True ∧ some k ≠ (Value.slice AC nC cC).ownBlock) (by kernel_rfl) (by kernel_rfl) rfl (fun _ hk => hk) (fun _ _ => trivial) HFD.out.own.codes HFD.out.bel HFD.out.sz (by have := HL.out; omega) ?_
   intro v2 w5 hR hB hG hat
   have HR2 := Amk hR; have HB2 := Amk hB; have HG2 := Amk hG; have HAT2 := Amk hat
   clear hR hB hG hat
   obtain ⟨A2, n2, c2, rfl, HN2⟩ := R_parts HR2.out
   have HM2 := Amk (HFD.out.grownC HG2.out HB2.out)
   have HP2 := Amk (blk_grown HPD.out HG2.out (Kd.R_ne HFD.out.own.codes HPD.out (by decide)))
   have ct2 := And.intro ((bqc HP2.out 0).trans (show _ = some (Value.pointer (some ⟨f, 0, none⟩)) from rfl)) ((bqc HM2.out.1 0).trans (show _ = some (Value.pointer (some ⟨o, 0, none⟩)) from rfl))
   have HF6 := Amk (HFD.out.pushC HG2.out HB2.out HR2.out)
   have HW6 := Amk (HFD.out.pushedC HG2.out HAT2.out)
   have HP6 := Amk (blk_set_ne HP2.out HM2.out.2 (by decide) 6 (.slice A2 n2 c2))
   have zf := blk_frozen HM2.out.2 6
   have cz := (bqc HM2.out.2 6).trans (show _ = some (Value.slice AC nC cC) from rfl)
   (first | refine hK.out _ _ ct2 (fun hHeld => ?_) | refine hK _ _ ct2 (fun hHeld => ?_)); try simp only [Lga, Lgz, Lgs, Act.put, Lsa, Lsz, Lss]
   refine tkH 14 ?_ hHeld ?_ ?_; rotate_left; (focus intro w_ hSw; (try dsimp only at hSw); go_simp; (try simp only [hSw]); (try rfl)); rotate_left; try simp only [Lga, Lgz, Lgs, Act.put, Lsa, Lsz, Lss]
   refine tkH 15 ?_ hHeld ?_ ?_; rotate_left; (focus intro w_ hSw; (try dsimp only at hSw); go_simp; (try simp only [hSw]); (try rfl)); rotate_left; try simp only [Lga, Lgz, Lgs, Act.put, Lsa, Lsz, Lss]
   refine wpAnyH_ready (rs := [16]) (by kernel_rfl) (by simp) ?_
   refine AllReadyH.cons rfl (fun K hK => ?_) AllReadyH.nil
   go_simp
   (first | refine hK.out _ _ (And.intro ((bqc HP6.out 0).trans (show _ = some (Value.pointer (some ⟨f, 0, none⟩)) from rfl)) HF6.out.c0) (fun hHeld => ?_) | refine hK _ _ (And.intro ((bqc HP6.out 0).trans (show _ = some (Value.pointer (some ⟨f, 0, none⟩)) from rfl)) HF6.out.c0) (fun hHeld => ?_)); try simp only [Lga, Lgz, Lgs, Act.put, Lsa, Lsz, Lss]
   refine wpAnyH_done (by kernel_rfl) ?_ _
   clear hK K
   go_wp2_with fail
   go_meet
   exact ⟨A2, n2, c2, HF6, ⟨Went.after (bdr (Below.refl _ _)) HW6.out⟩, HP6, ⟨blk_set_ne (blk_grown (blk_drew HA.out) HG2.out (Kd.R_ne HFD.out.own.codes (blk_drew HA.out) (by decide))) HM2.out.2 (by decide) 6 _⟩, ⟨blk_set_ne (blk_grown (blk_drew HI.out) HG2.out HIB.out) HM2.out.2 (by decide) 6 _⟩⟩
  ·
   go_simp
   (first | refine hK.out _ _ (And.intro ((bqc (blk_drew (bka HP.out _)) 0).trans (show _ = some (Value.pointer (some ⟨f, 0, none⟩)) from rfl)) (HF.out.alloc _).drew.c0) (fun hHeld => ?_) | refine hK _ _ (And.intro ((bqc (blk_drew (bka HP.out _)) 0).trans (show _ = some (Value.pointer (some ⟨f, 0, none⟩)) from rfl)) (HF.out.alloc _).drew.c0) (fun hHeld => ?_)); try simp only [Lga, Lgz, Lgs, Act.put, Lsa, Lsz, Lss]
   refine wpAnyH_ready (rs := [10]) (by kernel_rfl) (by simp) ?_
   refine AllReadyH.cons rfl (fun K hK => ?_) AllReadyH.nil
   go_simp
   (first | refine hK.out _ _ (And.intro ((bqc (blk_drew (bka HP.out _)) 0).trans (show _ = some (Value.pointer (some ⟨f, 0, none⟩)) from rfl)) (HF.out.alloc _).drew.c0) (fun hHeld => ?_) | refine hK _ _ (And.intro ((bqc (blk_drew (bka HP.out _)) 0).trans (show _ = some (Value.pointer (some ⟨f, 0, none⟩)) from rfl)) (HF.out.alloc _).drew.c0) (fun hHeld => ?_)); try simp only [Lga, Lgz, Lgs, Act.put, Lsa, Lsz, Lss]
   refine wpAnyH_ready (rs := [13]) (by kernel_rfl) (by simp) ?_
   refine AllReadyH.cons rfl (fun K hK => ?_) AllReadyH.nil
   refine Kd.R_append_step (Kd.int .i64) (w0 := w0) (W := w2.drew) w0.heap.size (by kernel_rfl) (.tmp 53) (.tmp 55) 43 3 _ 8 (by kernel_rfl) Tryz.underlying43 info3 rfl (by decide) (by decide) (.slice AC nC cC) s.codes 128 [.int .i64 128] (fun _ => True) (fun k => True ∧ some k ≠ (Value.slice AC nC cC).ownBlock) (by kernel_rfl) (by kernel_rfl) rfl (fun _ hk => hk) (fun _ _ => trivial) HFD.out.own.codes HFD.out.bel HFD.out.sz (by have := HL.out; omega) ?_
   intro v2 w5 hR hB hG hat
   have HR2 := Amk hR; have HB2 := Amk hB; have HG2 := Amk hG; have HAT2 := Amk hat
   clear hR hB hG hat
   obtain ⟨A2, n2, c2, rfl, HN2⟩ := R_parts HR2.out
   have HM2 := Amk (HFD.out.grownC HG2.out HB2.out)
   have HP2 := Amk (blk_grown HPD.out HG2.out (Kd.R_ne HFD.out.own.codes HPD.out (by decide)))
   have ct2 := And.intro ((bqc HP2.out 0).trans (show _ = some (Value.pointer (some ⟨f, 0, none⟩)) from rfl)) ((bqc HM2.out.1 0).trans (show _ = some (Value.pointer (some ⟨o, 0, none⟩)) from rfl))
   have HF6 := Amk (HFD.out.pushC HG2.out HB2.out HR2.out)
   have HW6 := Amk (HFD.out.pushedC HG2.out HAT2.out)
   have HP6 := Amk (blk_set_ne HP2.out HM2.out.2 (by decide) 6 (.slice A2 n2 c2))
   have zf := blk_frozen HM2.out.2 6
   have cz := (bqc HM2.out.2 6).trans (show _ = some (Value.slice AC nC cC) from rfl)
   (first | refine hK.out _ _ ct2 (fun hHeld => ?_) | refine hK _ _ ct2 (fun hHeld => ?_)); try simp only [Lga, Lgz, Lgs, Act.put, Lsa, Lsz, Lss]
   refine tkH 14 ?_ hHeld ?_ ?_; rotate_left; (focus intro w_ hSw; (try dsimp only at hSw); go_simp; (try simp only [hSw]); (try rfl)); rotate_left; try simp only [Lga, Lgz, Lgs, Act.put, Lsa, Lsz, Lss]
   refine tkH 15 ?_ hHeld ?_ ?_; rotate_left; (focus intro w_ hSw; (try dsimp only at hSw); go_simp; (try simp only [hSw]); (try rfl)); rotate_left; try simp only [Lga, Lgz, Lgs, Act.put, Lsa, Lsz, Lss]
   refine wpAnyH_ready (rs := [16]) (by kernel_rfl) (by simp) ?_
   refine AllReadyH.cons rfl (fun K hK => ?_) AllReadyH.nil
   go_simp
   (first | refine hK.out _ _ (And.intro ((bqc HP6.out 0).trans (show _ = some (Value.pointer (some ⟨f, 0, none⟩)) from rfl)) HF6.out.c0) (fun hHeld => ?_) | refine hK _ _ (And.intro ((bqc HP6.out 0).trans (show _ = some (Value.pointer (some ⟨f, 0, none⟩)) from rfl)) HF6.out.c0) (fun hHeld => ?_)); try simp only [Lga, Lgz, Lgs, Act.put, Lsa, Lsz, Lss]
   refine wpAnyH_done (by kernel_rfl) ?_ _
   clear hK K
   go_wp2_with fail
   go_meet
   exact ⟨A2, n2, c2, HF6, ⟨Went.after (bdr (Below.refl _ _)) HW6.out⟩, HP6, ⟨blk_set_ne (blk_grown (blk_drew HA.out) HG2.out (Kd.R_ne HFD.out.own.codes (blk_drew HA.out) (by decide))) HM2.out.2 (by decide) 6 _⟩, ⟨blk_set_ne (blk_grown (blk_drew HI.out) HG2.out HIB.out) HM2.out.2 (by decide) 6 _⟩⟩
 case rest =>
  obtain ⟨A2, n2, c2, HF3, HW3, HP3, HA3, HI3⟩ := hcut
  have ct := (bqc HA3.out 4).trans (show _ = some (Value.string ⟨⟨tl⟩⟩) from rfl)
  clear HF HFD HPD ctd c6 c6d c6a HP HA HI
  have HC3 := Amk (Kd.R_reads' HF3.out.own.codes)
  have HE : Aside0 (∀ W, Below wc.heap.size wc W → Calls Tryz.prog 76 #[.agg ((subackP id (s.codes ++ [128])).pk (.slice none 0 0) (.slice A2 n2 c2)).cells] W (EPost W (enc 9 0 (be16 id ++ ((s.codes ++ [128])).map byteOf)) 0)) := ⟨fun W hB => by
   obtain ⟨hn, hc, hC⟩ := HC3.out
   change n2 = ((s.codes ++ [128])).length at hn
   change (Kd.int .i64).C wc A2 ((s.codes ++ [128])).length (s.codes ++ [128]) at hC
   rw [hn] at hc ⊢
   exact suback_calls id (s.codes ++ [128]) A2 c2 HB.out.1 HB.out.2.1 (by simp) (by have := HL.out; simp; omega) (by intro x hx; rcases List.mem_append.1 hx with hx | hx; (exact HB.out.2.2 x hx); (rw [List.mem_singleton] at hx; subst hx; simp)) W (Kd.C_below hC hB) hc⟩
  have HI3' : Aside0 (some ib ≠ (Value.slice A2 n2 c2).ownBlock) := ⟨by
   rcases HW3.out.atC with e | e | ⟨b, e, hb⟩
   ·
    rw [e]; exact HIB.out
   ·
    rw [e]; simp
   ·
    rw [e]; intro h; injection h with h; have := HIL.out; omega⟩
  have ct' := ct
  have HFD := Amk HF3.out.drew
  have HPD := Amk (blk_drew HP3.out)
  have HID := Amk (blk_drew HI3.out)
  have ct3 := (And.intro ((bqc HPD.out 0).trans (show _ = some (Value.pointer (some ⟨f, 0, none⟩)) from rfl)) (And.intro HFD.out.c0 ((bqc HID.out 0).trans (show _ = some (Value.int .i64 id) from rfl))))
  have c6 := (HF3.out.cell 6).trans (show _ = some (Value.slice A2 n2 c2) from rfl)
  go_upto_region 16 with (fail)
  refine wp_region_held_drew (S := (fun W => W.cell? ⟨pb, 0, none⟩ = some (.pointer (some ⟨f, 0, none⟩)) ∧ W.cell? ⟨f, 0, none⟩ = some (.pointer (some ⟨o, 0, none⟩)) ∧ W.cell? ⟨ib, 0, none⟩ = some (.int .i64 id))) (by kernel_rfl) ct3 (fun hHeld => ?_)
  refine tkH 0 ?_ hHeld ?_ ?_; rotate_left; (focus intro w_ hSw; (try dsimp only at hSw); go_simp; (try simp only [hSw]); (try rfl)); rotate_left; try simp only [Lga, Lgz, Lgs, Act.put, Lsa, Lsz, Lss]
  refine tkH 1 ?_ hHeld ?_ ?_; rotate_left; (focus intro w_ hSw; (try dsimp only at hSw); go_simp; (try simp only [hSw]); (try rfl)); rotate_left; try simp only [Lga, Lgz, Lgs, Act.put, Lsa, Lsz, Lss]
  refine tkH 2 ?_ hHeld ?_ ?_; rotate_left; (focus intro w_ hSw; (try dsimp only at hSw); go_simp; (try simp only [hSw]); (try rfl)); rotate_left; try simp only [Lga, Lgz, Lgs, Act.put, Lsa, Lsz, Lss]
  refine tkH 3 ?_ hHeld ?_ ?_; rotate_left; (focus intro w_ hSw; (try dsimp only at hSw); go_simp; (try simp only [hSw]); (try rfl)); rotate_left; try simp only [Lga, Lgz, Lgs, Act.put, Lsa, Lsz, Lss]
  refine tkH 4 ?_ hHeld ?_ ?_; rotate_left; (focus intro w_ hSw; (try dsimp only at hSw); go_simp; (try simp only [hSw]); (try rfl)); rotate_left; try simp only [Lga, Lgz, Lgs, Act.put, Lsa, Lsz, Lss]
  refine tkH 5 ?_ hHeld ?_ ?_; rotate_left; (focus intro w_ hSw; (try dsimp only at hSw); go_simp; (try simp only [hSw]); (try rfl)); rotate_left; try simp only [Lga, Lgz, Lgs, Act.put, Lsa, Lsz, Lss]
  refine tkH 6 ?_ hHeld ?_ ?_; rotate_left; (focus intro w_ hSw; (try dsimp only at hSw); go_simp; (try simp only [hSw]); (try rfl)); rotate_left; try simp only [Lga, Lgz, Lgs, Act.put, Lsa, Lsz, Lss]
  refine tkH 7 ?_ hHeld ?_ ?_; rotate_left; (focus intro w_ hSw; (try dsimp only at hSw); go_simp; (try simp only [hSw]); (try rfl)); rotate_left; try simp only [Lga, Lgz, Lgs, Act.put, Lsa, Lsz, Lss]
  refine wpAnyH_ready (rs := [8]) (by kernel_rfl) (by simp) ?_
  refine AllReadyH.cons rfl (fun K hK => ?_) AllReadyH.nil
  go_simp
  (first | refine hK.out _ _ (And.intro ((bqc HPD.out 0).trans (show _ = some (Value.pointer (some ⟨f, 0, none⟩)) from rfl)) (And.intro HFD.out.c0 ((bqc HID.out 0).trans (show _ = some (Value.int .i64 id) from rfl)))) (fun hHeld => ?_) | refine hK _ _ (And.intro ((bqc HPD.out 0).trans (show _ = some (Value.pointer (some ⟨f, 0, none⟩)) from rfl)) (And.intro HFD.out.c0 ((bqc HID.out 0).trans (show _ = some (Value.int .i64 id) from rfl)))) (fun hHeld => ?_)); try simp only [Lga, Lgz, Lgs, Act.put, Lsa, Lsz, Lss]
  refine tkH 9 ?_ hHeld ?_ ?_; rotate_left; (focus intro w_ hSw; (try dsimp only at hSw); go_simp; (try rfl)); rotate_left; try simp only [Lga, Lgz, Lgs, Act.put, Lsa, Lsz, Lss]
  refine wpAnyH_ready (rs := [10]) (by kernel_rfl) (by simp) ?_
  refine AllReadyH.cons rfl (fun K hK => ?_) AllReadyH.nil
  go_simp
  go_wp2_with (go_at_call 75; refine Calls.mono (say_calls w0 _ f o _ conn [] _ _ _ HFD.out (by simp) (subackP id (s.codes ++ [128])) _ _ _ _ (fun W hB => HE.out W (below_then (bdr (Below.refl _ _)) (Nat.le_refl _) hB))) ?_; rintro e1 w7 ⟨rfl, vW', vC', vA', hf, hk⟩; have HF7 := Amk hf; have HK7 := Amk hk; have HP7 := Amk (blk_kept HPD.out hk.kept (HFD.out.farT HPD.out (by decide))); have HI7 := Amk (blk_kept HID.out hk.kept (HFD.out.farI HID.out HI3'.out)); clear hf hk)
  (first | refine hK.out _ _ (And.intro ((bqc HP7.out 0).trans (show _ = some (Value.pointer (some ⟨f, 0, none⟩)) from rfl)) (And.intro HF7.out.c0 ((bqc HI7.out 0).trans (show _ = some (Value.int .i64 id) from rfl)))) (fun hHeld => ?_) | refine hK _ _ (And.intro ((bqc HP7.out 0).trans (show _ = some (Value.pointer (some ⟨f, 0, none⟩)) from rfl)) (And.intro HF7.out.c0 ((bqc HI7.out 0).trans (show _ = some (Value.int .i64 id) from rfl)))) (fun hHeld => ?_)); try simp only [Lga, Lgz, Lgs, Act.put, Lsa, Lsz, Lss]
  refine wpAnyH_done (by kernel_rfl) ?_ _
  clear hK K
  have cp7 := (bqc HP7.out 0).trans (show _ = some (Value.pointer (some ⟨f, 0, none⟩)) from rfl)
  have c07 := HF7.out.c0
  have zo7 := HF7.out.zo 6
  have co7 := (HF7.out.cell 6).trans (show _ = some vC' from rfl)
  have HF8 := Amk (HF7.out.setO (s' := { s with codes := [] }) 6 (.slice none 0 0) rfl HF7.out.own.will (Kd.R_nil _ _ _ _ _))
  have HW8 := Amk ((Went.trans (HW3.out.below (bdr (Below.refl _ _))) HK7.out).trans (HF7.out.seto 6 (.slice none 0 0)))
  go_wp2_with fail
  go_end0
  exact ⟨rfl, _, _, _, HF8.out, ⟨HW8.out.kept, HW8.out.atA, .inr (.inl rfl)⟩⟩
def TQ (w : World) (r : Mq × List BAct) (e : Ending) (w' : World) : Prop := ∃ vW vC vA, e = .returned (.tuple #[.agg (mqCells r.1 vW vC), vA]) ∧ kOp.R 64 w' w.heap.size (fun _ => True) vW r.1.will ∧ (Kd.int .i64).R 3 w' w.heap.size (fun _ => True) vC r.1.codes ∧ kAct.R 57 w' w.heap.size (fun _ => True) vA r.2 ∧ Below w.heap.size w w'
def sayF (s : Mq) (ref : Int) (text : ByteArray) (id : Nat) (e : Int) : Mq × List BAct :=
 if ref = 2 then (s, [sayAct (enc 2 0 [0, 0])])
 else if ref = 4 then (s, [sayAct (enc 4 0 (be16 id))])
 else if ref = 5 then (s, [sayAct (enc 5 0 (be16 id))])
 else if ref = 6 then (s, [sayAct (enc 7 0 (be16 id))])
 else if ref = 3 then
  if text = ⟨#[]⟩ then ({ s with codes := s.codes ++ [if e = 0 then 0 else 128] }, [])
  else ({ s with codes := [] }, [sayAct (enc 9 0 (be16 id ++ (s.codes ++ [if e = 0 then 0 else 128]).map byteOf))])
 else (s, [])
def toutF (s : Mq) (ref : Int) (text : ByteArray) (id : Nat) (e : Int) : Bool × Mq × List BAct :=
 if (decide (e = 0) || passedF ref e) = false then (true, s, []) else (false, (sayF s ref text id e).1, (sayF s ref text id e).2)
theorem toldM_out (s : Mq) (ref : Int) (text : ByteArray) (id : Nat) (e : Int) (hd : s.down = false) : toldM s ref text id e = ((if (toutF s ref text id e).1 = true then ended (toutF s ref text id e).2.1 else (toutF s ref text id e).2.1), (if (toutF s ref text id e).1 = true then (toutF s ref text id e).2.2 ++ [endAct] else (toutF s ref text id e).2.2)) := by
 unfold toldM toutF
 rw [if_neg (by simp [hd])]
 split
 ·
  rfl
 ·
  rfl
theorem clos73 (w0 w : World) (f o : Nat) (s : Mq) (conn : Int) (vW vC vA : Value) (h : Fr w0 w f o s conn [] vW vC vA) (e kind ref : Int) (bytes text : ByteArray) (vO : Value) (id : Nat) (eb ab pb ib : Nat) (he : w.heap[eb]? = some (.cells #[.int .i64 e] 24 (0, 0))) (ha : w.heap[ab]? = some (.cells #[.int .i64 kind, .string bytes, vO, .int .i64 ref, .string text] 57 (0, 0))) (hp : w.heap[pb]? = some (.cells #[.pointer (some ⟨f, 0, none⟩)] 103 (0, 0))) (hi : w.heap[ib]? = some (.cells #[.int .i64 id] 3 (0, 0))) (hcl : ref = 3 → s.codes.length < 32) (hcs : ∀ x ∈ s.codes, x = 0 ∨ x = 128) (hib : some ib ≠ vC.ownBlock) (ht : (text = itoaB id ∧ 1 ≤ id ∧ id ≤ 65535) ∨ (text = ⟨#[]⟩ ∧ ref ≠ 4 ∧ ref ≠ 5 ∧ ref ≠ 6)) :
  Calls Tryz.prog 73 #[.pointer (some ⟨eb, 0, none⟩), .pointer (some ⟨ab, 0, none⟩), .pointer (some ⟨pb, 0, none⟩), .pointer (some ⟨ib, 0, none⟩)] w (FPost w0 w f o conn vA vC (toutF s ref text id e).1 (toutF s ref text id e).2.1 (toutF s ref text id e).2.2) := by
 unfold toutF
 by_cases hok : (decide (e = 0) || passedF ref e) = false
 ·
  rw [if_pos hok]
  exact c73_bad w0 w f o s conn vW vC vA h e kind ref bytes text vO id eb ab pb ib he ha hp hi hok
 rw [if_neg hok]
 have hok : (decide (e = 0) || passedF ref e) = true := by cases h : (decide (e = 0) || passedF ref e) with | true => rfl | false => exact absurd h hok
 unfold sayF
 by_cases k2 : ref = 2
 ·
  rw [if_pos k2]; exact c73_open w0 w f o s conn vW vC vA h e kind ref bytes text vO id eb ab pb ib he ha hp hi hok k2
 rw [if_neg k2]
 by_cases k4 : ref = 4
 ·
  rw [if_pos k4]
  rcases ht with ⟨_, h1, h2⟩ | ⟨_, h4, _⟩
  ·
   exact c73_ack w0 w f o s conn vW vC vA h e kind ref bytes text vO id eb ab pb ib he ha hp hi hok k4 h1 h2
  ·
   exact absurd k4 h4
 rw [if_neg k4]
 by_cases k5 : ref = 5
 ·
  rw [if_pos k5]
  rcases ht with ⟨_, h1, h2⟩ | ⟨_, _, h5, _⟩
  ·
   exact c73_rec w0 w f o s conn vW vC vA h e kind ref bytes text vO id eb ab pb ib he ha hp hi hok k5 h1 h2
  ·
   exact absurd k5 h5
 rw [if_neg k5]
 by_cases k6 : ref = 6
 ·
  rw [if_pos k6]
  rcases ht with ⟨_, h1, h2⟩ | ⟨_, _, _, h6⟩
  ·
   exact c73_comp w0 w f o s conn vW vC vA h e kind ref bytes text vO id eb ab pb ib he ha hp hi hok k6 h1 h2
  ·
   exact absurd k6 h6
 rw [if_neg k6]
 by_cases k3 : ref = 3
 ·
  rw [if_pos k3]
  have hl := hcl k3
  by_cases he0 : e = 0
  ·
   rw [if_pos he0]
   by_cases htx : text = ⟨#[]⟩
   ·
    rw [if_pos htx]
    exact c73_bind0 w0 w f o s conn vW vC vA h e kind ref bytes text vO id eb ab pb ib he ha hp hi hl hib he0 htx k3
   ·
    rw [if_neg htx]
    rcases ht with ⟨_, h1, h2⟩ | ⟨h, _⟩
    ·
     exact c73_last0 w0 w f o s conn vW vC vA h e kind ref bytes text vO id eb ab pb ib he ha hp hi hl hib he0 h1 h2 hcs htx k3
    ·
     exact absurd h htx
  ·
   rw [if_neg he0]
   have hpf : passedF 3 e = true := by rw [k3] at hok; simpa [he0] using hok
   by_cases htx : text = ⟨#[]⟩
   ·
    rw [if_pos htx]
    exact c73_bind1 w0 w f o s conn vW vC vA h e kind ref bytes text vO id eb ab pb ib he ha hp hi hl hib he0 hpf htx k3
   ·
    rw [if_neg htx]
    rcases ht with ⟨_, h1, h2⟩ | ⟨h, _⟩
    ·
     exact c73_last1 w0 w f o s conn vW vC vA h e kind ref bytes text vO id eb ab pb ib he ha hp hi hl hib he0 hpf h1 h2 hcs htx k3
    ·
     exact absurd h htx
 rw [if_neg k3]
 exact c73_none w0 w f o s conn vW vC vA h e kind ref bytes text vO id eb ab pb ib he ha hp hi hok k2 k4 k5 k6 k3
theorem told_results {W : World} {r : Nat} {cs : Array Value} {v9 : Value} {tmps : Array Value} (h8 : tmps.getD 8 undef = .pointer (some ⟨r, 0, none⟩)) (h9 : tmps.getD 9 undef = v9) (hb : W.heap[r]? = some (.cells cs 45 (0, 0))) (hs : cs.size = 7) :
  (results Tryz.f30 tmps).run Tryz.prog W = .ok (.tuple #[.agg cs, v9]) W := by
 have h1 := run_loadVar_row (P := Tryz.prog) W r 45 45 cs (0, 0) _ hb Tryz.underlying45 rfl (by rw [hs]; kernel_rfl)
 have h8' : tmps[8]?.getD undef = .pointer (some ⟨r, 0, none⟩) := by simpa using h8
 have h9' : tmps[9]?.getD undef = v9 := by simpa using h9
 simp [results, Tryz.results30, h8', h9', asAddr, h1]
theorem call73 (caps : Array Value) (w : World) : (callFunc 73 caps).run Tryz.prog w = .ok (.enter 73 caps) w := by kernel_rfl
theorem told_calls (s : Mq) (AW : Option Addr) (cW : Nat) (AC : Option Addr) (cC : Nat) (conn : Int) (kind ref e : Int) (bytes text : ByteArray) (AO : Option Addr) (nO cO : Nat) (id : Nat) (w : World) (hI : MqIn w s AW cW AC cC) (hG : WI w) (hm : MqOk s) (hcl : s.down = false → ref = 3 → s.codes.length < 32) (ht : (text = itoaB id ∧ 1 ≤ id ∧ id ≤ 65535) ∨ (text = ⟨#[]⟩ ∧ id = 0 ∧ ref ≠ 4 ∧ ref ≠ 5 ∧ ref ≠ 6)) :
  Calls Tryz.prog 30 #[mqAgg s AW cW AC cC, .int .i64 conn, .agg #[.int .i64 kind, .string bytes, .slice AO nO cO, .int .i64 ref, .string text], .int .i64 e] w (TQ w (toldM s ref text id e)) := by
 have HC : Aside0 (∀ W, Below w.heap.size w W → Calls Tryz.prog 67 #[mqAgg s AW cW AC cC] W fun e w' => ∃ vW vC, e = .returned (.agg (mqCells s vW vC)) ∧ kOp.R 64 w' W.heap.size (fun _ => True) vW s.will ∧ (Kd.int .i64).R 3 w' W.heap.size (fun _ => True) vC s.codes ∧ Below W.heap.size W w') := ⟨fun W hB => copied_calls s AW cW AC cC W (hI.below hB)⟩
 have HG := Amk hG
 have HM := Amk hm
 have HCL : Aside0 (s.down = false → ref = 3 → ∀ l, l = s.codes → l.length < 32) := ⟨fun h1 h2 l hl => hl ▸ hcl h1 h2⟩
 have HT := Amk ht
 clear hI hG hm hcl ht
 obtain ⟨R, hR⟩ : ∃ R, toldM s ref text id e = R := ⟨_, rfl⟩
 have HR := Amk hR
 rw [hR]
 clear hR
 obtain ⟨⟨restl⟩, up, down, client, clean, will, codes⟩ := s
 obtain ⟨restl⟩ := restl
 simp only [mqAgg, mqCells] at *
 generalize will.length = nW at *
 generalize codes.length = nC at *
 have HBX : Aside0 (((((w.alloc (.cells #[.string ⟨restl.toArray⟩, .bool up, .bool down, .string client, .bool clean, .slice AW nW cW, .slice AC nC cC] 45)).alloc (.cells #[.int .i64 kind, .string bytes, .slice AO nO cO, .int .i64 ref, .string text] 57)).alloc (.cells #[.int .i64 e] 24)).alloc (.cells #[.string ⟨#[]⟩, .bool false, .bool false, .string ⟨#[]⟩, .bool false, .slice none 0 0, .slice none 0 0] 45)).heap[w.heap.size]? = some (.cells #[.string ⟨restl.toArray⟩, .bool up, .bool down, .string client, .bool clean, .slice AW nW cW, .slice AC nC cC] 45 (0, 0))) := ⟨bka (bka (bka (heap_alloc_new w _) _) _) _⟩
 have HBA : Aside0 (((((w.alloc (.cells #[.string ⟨restl.toArray⟩, .bool up, .bool down, .string client, .bool clean, .slice AW nW cW, .slice AC nC cC] 45)).alloc (.cells #[.int .i64 kind, .string bytes, .slice AO nO cO, .int .i64 ref, .string text] 57)).alloc (.cells #[.int .i64 e] 24)).alloc (.cells #[.string ⟨#[]⟩, .bool false, .bool false, .string ⟨#[]⟩, .bool false, .slice none 0 0, .slice none 0 0] 45)).heap[w.heap.size + 1]? = some (.cells #[.int .i64 kind, .string bytes, .slice AO nO cO, .int .i64 ref, .string text] 57 (0, 0))) := ⟨by have := heap_alloc_new (w.alloc (.cells #[.string ⟨restl.toArray⟩, .bool up, .bool down, .string client, .bool clean, .slice AW nW cW, .slice AC nC cC] 45)) (.cells #[.int .i64 kind, .string bytes, .slice AO nO cO, .int .i64 ref, .string text] 57); rw [World.size_alloc] at this; exact bka (bka this _) _⟩
 have HBE : Aside0 (((((w.alloc (.cells #[.string ⟨restl.toArray⟩, .bool up, .bool down, .string client, .bool clean, .slice AW nW cW, .slice AC nC cC] 45)).alloc (.cells #[.int .i64 kind, .string bytes, .slice AO nO cO, .int .i64 ref, .string text] 57)).alloc (.cells #[.int .i64 e] 24)).alloc (.cells #[.string ⟨#[]⟩, .bool false, .bool false, .string ⟨#[]⟩, .bool false, .slice none 0 0, .slice none 0 0] 45)).heap[w.heap.size + 2]? = some (.cells #[.int .i64 e] 24 (0, 0))) := ⟨by have := heap_alloc_new ((w.alloc (.cells #[.string ⟨restl.toArray⟩, .bool up, .bool down, .string client, .bool clean, .slice AW nW cW, .slice AC nC cC] 45)).alloc (.cells #[.int .i64 kind, .string bytes, .slice AO nO cO, .int .i64 ref, .string text] 57)) (.cells #[.int .i64 e] 24); rw [World.size_alloc, World.size_alloc] at this; exact bka this _⟩
 have HBR : Aside0 (((((w.alloc (.cells #[.string ⟨restl.toArray⟩, .bool up, .bool down, .string client, .bool clean, .slice AW nW cW, .slice AC nC cC] 45)).alloc (.cells #[.int .i64 kind, .string bytes, .slice AO nO cO, .int .i64 ref, .string text] 57)).alloc (.cells #[.int .i64 e] 24)).alloc (.cells #[.string ⟨#[]⟩, .bool false, .bool false, .string ⟨#[]⟩, .bool false, .slice none 0 0, .slice none 0 0] 45)).heap[w.heap.size + 3]? = some (.cells #[.string ⟨#[]⟩, .bool false, .bool false, .string ⟨#[]⟩, .bool false, .slice none 0 0, .slice none 0 0] 45 (0, 0))) := ⟨by have := heap_alloc_new (((w.alloc (.cells #[.string ⟨restl.toArray⟩, .bool up, .bool down, .string client, .bool clean, .slice AW nW cW, .slice AC nC cC] 45)).alloc (.cells #[.int .i64 kind, .string bytes, .slice AO nO cO, .int .i64 ref, .string text] 57)).alloc (.cells #[.int .i64 e] 24)) (.cells #[.string ⟨#[]⟩, .bool false, .bool false, .string ⟨#[]⟩, .bool false, .slice none 0 0, .slice none 0 0] 45); rwa [World.size_alloc, World.size_alloc, World.size_alloc] at this⟩
 have HB0 : Aside0 (Below w.heap.size w ((((w.alloc (.cells #[.string ⟨restl.toArray⟩, .bool up, .bool down, .string client, .bool clean, .slice AW nW cW, .slice AC nC cC] 45)).alloc (.cells #[.int .i64 kind, .string bytes, .slice AO nO cO, .int .i64 ref, .string text] 57)).alloc (.cells #[.int .i64 e] 24)).alloc (.cells #[.string ⟨#[]⟩, .bool false, .bool false, .string ⟨#[]⟩, .bool false, .slice none 0 0, .slice none 0 0] 45))) := ⟨bal (bal (bal (bal (Below.refl _ _) _) _) _) _⟩
 go_enter Tryz.func30, Tryz.ntmps30
 go_upto_region 3 with (first
  | ((with_reducible refine gate_dst (N := 14) rfl ?_); refine wpList_load_row rfl 45 (.tmp 4) rfl w.heap.size rfl 45 (#[.string ⟨restl.toArray⟩, .bool up, .bool down, .string client, .bool clean, .slice AW nW cW, .slice AC nC cC]) (0, 0) _ HBX.out Tryz.underlying45 rfl (by kernel_rfl) ?_)
  | (go_at_call 67; refine Calls.mono (HC.out _ HB0.out) ?_; rintro e1 w1 ⟨v1, v2, rfl, hr1, hr2, hb⟩; have HSZ0 : w.heap.size + 4 ≤ w1.heap.size := Nat.le_trans (by simp) hb.size; have HR1 := Amk (Kd.R_lower hr1 (base' := w.heap.size) (by simp; omega)); have HR2 := Amk (Kd.R_lower hr2 (base' := w.heap.size) (by simp; omega)); have HB1 : Aside0 (Below w.heap.size w w1) := ⟨below_then HB0.out (by simp; omega) hb⟩; have HX1 := Amk ((hb.block _ (blt HBX.out)).trans HBX.out); have HA1 := Amk ((hb.block _ (blt HBA.out)).trans HBA.out); have HE1 := Amk ((hb.block _ (blt HBE.out)).trans HBE.out); have HY1 := Amk ((hb.block _ (blt HBR.out)).trans HBR.out); have HSZ1 := Amk HSZ0; clear hr1 hr2 hb HSZ0; obtain ⟨A1, n1, c1, rfl, HN1⟩ := R_parts HR1.out; obtain ⟨A2, n2, c2, rfl, HN2⟩ := R_parts HR2.out)
  | ((with_reducible refine gate_store (t := 45) (p := 10) rfl ?_); refine wpList_store_blk 45 (.tmp 10) (.tmp 15) rfl rfl rfl (g := w1.heap.size) (e := 45) (.agg #[.string ⟨restl.toArray⟩, .bool up, .bool down, .string client, .bool clean, .slice A1 n1 c1, .slice A2 n2 c2]) [.string ⟨restl.toArray⟩, .bool up, .bool down, .string client, .bool clean, .slice A1 n1 c1, .slice A2 n2 c2] rfl rfl rfl (heap_alloc_new w1 _) (by kernel_rfl) rfl (by simp [Value.oneCell']) ?_; intro W1 hw; have HW1 := Amk hw; clear hw))
 have HSZ2 := Amk HW1.out.grown.size
 have HF0 : Aside0 (Fr w _ _ w1.heap.size (⟨⟨⟨restl⟩⟩, up, down, client, clean, will, codes⟩ : Mq) conn [] (.slice A1 n1 c1) (.slice A2 n2 c2) (.slice none 0 0)) := ⟨Fr.new HW1.out.blk (R_wrote (Kd.R_below HR1.out (bal (Below.refl _ _) _)) HW1.out (heap_alloc_new w1 _) (by decide)) (R_wrote (Kd.R_below HR2.out (bal (Below.refl _ _) _)) HW1.out (heap_alloc_new w1 _) (by decide)) HB1.out.size (HW1.out.below (bal HB1.out _) (Nat.le_trans HB1.out.size (by simp)) HB1.out.size) conn⟩
 have HF := Amk (HF0.out.alloc (.cells #[.pointer (some ⟨W1.heap.size, 0, none⟩)] 103))
 have HX := Amk (bka (bka (HW1.out.blk_ (bka HX1.out (.cells #[.string ⟨#[]⟩, .bool false, .bool false, .string ⟨#[]⟩, .bool false, .slice none 0 0, .slice none 0 0] 45)) (by have := HSZ1.out; omega)) (.cells #[.pointer (some ⟨w1.heap.size, 0, none⟩), .int .i64 conn, .slice none 0 0] 106)) (.cells #[.pointer (some ⟨W1.heap.size, 0, none⟩)] 103))
 have HA := Amk (bka (bka (HW1.out.blk_ (bka HA1.out (.cells #[.string ⟨#[]⟩, .bool false, .bool false, .string ⟨#[]⟩, .bool false, .slice none 0 0, .slice none 0 0] 45)) (by have := HSZ1.out; omega)) (.cells #[.pointer (some ⟨w1.heap.size, 0, none⟩), .int .i64 conn, .slice none 0 0] 106)) (.cells #[.pointer (some ⟨W1.heap.size, 0, none⟩)] 103))
 have HE := Amk (bka (bka (HW1.out.blk_ (bka HE1.out (.cells #[.string ⟨#[]⟩, .bool false, .bool false, .string ⟨#[]⟩, .bool false, .slice none 0 0, .slice none 0 0] 45)) (by have := HSZ1.out; omega)) (.cells #[.pointer (some ⟨w1.heap.size, 0, none⟩), .int .i64 conn, .slice none 0 0] 106)) (.cells #[.pointer (some ⟨W1.heap.size, 0, none⟩)] 103))
 have HY := Amk (bka (bka (HW1.out.blk_ (bka HY1.out (.cells #[.string ⟨#[]⟩, .bool false, .bool false, .string ⟨#[]⟩, .bool false, .slice none 0 0, .slice none 0 0] 45)) (by have := HSZ1.out; omega)) (.cells #[.pointer (some ⟨w1.heap.size, 0, none⟩), .int .i64 conn, .slice none 0 0] 106)) (.cells #[.pointer (some ⟨W1.heap.size, 0, none⟩)] 103))
 have HP := Amk (heap_alloc_new (W1.alloc (.cells #[.pointer (some ⟨w1.heap.size, 0, none⟩), .int .i64 conn, .slice none 0 0] 106)) (.cells #[.pointer (some ⟨W1.heap.size, 0, none⟩)] 103))
 have HO : Aside0 (w.heap.size + 3 < w1.heap.size ∧ w1.heap.size < W1.heap.size) := ⟨by have := HSZ1.out; omega, by have := blt HW1.out.blk; exact this⟩
 rw [World.size_alloc] at HP
 clear HF0 HX1 HY1 HA1 HE1 HW1 HB1 HR1 HR2 HSZ1 HSZ2 HB0 HBX HBR HBA HBE HC
 generalize (W1.alloc (.cells #[.pointer (some ⟨w1.heap.size, 0, none⟩), .int .i64 conn, .slice none 0 0] 106)).alloc (.cells #[.pointer (some ⟨W1.heap.size, 0, none⟩)] 103) = W3 at *
 generalize W1.heap.size = f at *
 generalize w1.heap.size = o at *
 cases down with
 | true =>
  obtain rfl : R = ((⟨⟨⟨restl⟩⟩, up, true, client, clean, will, codes⟩ : Mq), []) := by rw [← HR.out]; exact toldM_down _ _ _ _ rfl
  have cd := (bqc HX.out 2).trans (show _ = some (Value.bool true) from rfl)
  go_wp2_with (first
   | ((with_reducible refine gate_dst (N := 21) rfl ?_); refine wpList_load_row rfl 45 (.tmp 10) rfl o rfl 45 (#[.string ⟨⟨restl⟩⟩, .bool up, .bool true, .string client, .bool clean, .slice A1 n1 c1, .slice A2 n2 c2]) (0, 0) _ HF.out.own.blk Tryz.underlying45 rfl (by kernel_rfl) ?_)
   | ((with_reducible refine gate_store (t := 45) (p := 8) rfl ?_); refine wpList_store_blk 45 (.tmp 8) (.tmp 21) rfl rfl rfl (g := w.heap.size + 3) (e := 45) (.agg #[.string ⟨⟨restl⟩⟩, .bool up, .bool true, .string client, .bool clean, .slice A1 n1 c1, .slice A2 n2 c2]) [.string ⟨⟨restl⟩⟩, .bool up, .bool true, .string client, .bool clean, .slice A1 n1 c1, .slice A2 n2 c2] rfl rfl rfl HY.out (by kernel_rfl) rfl (by simp [Value.oneCell']) ?_; intro W6 hw; have HW6 := Amk hw; clear hw))
  refine bodyPost_ret (told_results rfl rfl HW6.out.blk rfl) rfl ?_
  exact ⟨_, _, _, rfl, R_wrote HF.out.own.will HW6.out HY.out (by decide), R_wrote HF.out.own.codes HW6.out HY.out (by decide), Kd.R_nil _ _ _ _ _, HW6.out.below HF.out.bel HF.out.sz (by omega)⟩
 | false =>
  have cd := (bqc HX.out 2).trans (show _ = some (Value.bool false) from rfl)
  have ct := (bqc HA.out 4).trans (show _ = some (Value.string text) from rfl)
  have HAT := Amk (atoi_calls text id (HT.out.imp (fun h => ⟨h.1, h.2.2⟩) (fun h => ⟨h.1, h.2.1⟩)) W3 (HG.out.below HF.out.bel))
  go_upto_region 6 with (go_at_call 72; refine Calls.mono HAT.out ?_; rintro e1 w4 ⟨v13, rfl, hb⟩; have HF4 := Amk ((HF.out.below hb).alloc (.cells #[.int .i64 id] 3)); have HY4 := Amk (bka ((hb.block _ (blt HY.out)).trans HY.out) (.cells #[.int .i64 id] 3)); have HA4 := Amk (bka ((hb.block _ (blt HA.out)).trans HA.out) (.cells #[.int .i64 id] 3)); have HE4 := Amk (bka ((hb.block _ (blt HE.out)).trans HE.out) (.cells #[.int .i64 id] 3)); have HP4 := Amk (bka ((hb.block _ (blt HP.out)).trans HP.out) (.cells #[.int .i64 id] 3)); have HI4 := Amk (heap_alloc_new w4 (.cells #[.int .i64 id] 3)); have HZ4 := Amk (Nat.lt_of_lt_of_le (blt HP.out) hb.size); have HIB : Aside0 (some w4.heap.size ≠ (Value.slice A2 n2 c2).ownBlock) := ⟨fun h => absurd (Kd.R_lt (HF.out.below hb).own.codes _ h.symm) (Nat.lt_irrefl _)⟩; clear hb)
  have hO := HO.out
  have hZ := HZ4.out
  obtain ⟨s9, a9, h9⟩ : ∃ s9 a9, toldM (⟨⟨⟨restl⟩⟩, up, false, client, clean, will, codes⟩ : Mq) ref text id e = (s9, a9) := ⟨_, _, rfl⟩
  obtain ⟨W6, hW6⟩ : ∃ W6, w4.alloc (.cells #[.int .i64 id] 3) = W6 := ⟨_, rfl⟩
  rw [hW6] at HF4 HY4 HA4 HE4 HP4 HI4 ⊢
  have HF6 := HF4; have HY6 := HY4; have HA6 := HA4; have HE6 := HE4; have HP6 := HP4; have HI6 := HI4
  have HGD : Aside0 (Calls Tryz.prog 68 #[.pointer (some ⟨f, 0, none⟩), .func (.func 73) #[] #[.pointer (some ⟨w.heap.size + 2, 0, none⟩), .pointer (some ⟨w.heap.size + 1, 0, none⟩), .pointer (some ⟨f + 1, 0, none⟩), .pointer (some ⟨w4.heap.size, 0, none⟩)]] W6 (FPost w W6 f o conn (.slice none 0 0) (.slice A2 n2 c2) false s9 a9)) := ⟨by
   have h := guard_calls 73 f o #[.pointer (some ⟨w.heap.size + 2, 0, none⟩), .pointer (some ⟨w.heap.size + 1, 0, none⟩), .pointer (some ⟨f + 1, 0, none⟩), .pointer (some ⟨w4.heap.size, 0, none⟩)] w W6 (⟨⟨⟨restl⟩⟩, up, false, client, clean, will, codes⟩ : Mq) (toutF (⟨⟨⟨restl⟩⟩, up, false, client, clean, will, codes⟩ : Mq) ref text id e).2.1 conn [] (toutF (⟨⟨⟨restl⟩⟩, up, false, client, clean, will, codes⟩ : Mq) ref text id e).2.2 _ _ _ (toutF (⟨⟨⟨restl⟩⟩, up, false, client, clean, will, codes⟩ : Mq) ref text id e).1 (call73 _) HF6.out
    (by unfold toutF sayF; (repeat' split); all_goals simp)
    (fun W hB => clos73 w W f o _ conn _ _ _ (HF6.out.below hB) e kind ref bytes text _ id _ _ _ _ ((hB.block _ (blt HE6.out)).trans HE6.out) ((hB.block _ (blt HA6.out)).trans HA6.out) ((hB.block _ (blt HP6.out)).trans HP6.out) ((hB.block _ (blt HI6.out)).trans HI6.out) (fun h3 => HCL.out (by trivial) h3 _ rfl) HM.out.each HIB.out (HT.out.imp (fun h => h) (fun h => ⟨h.1, h.2.2⟩)))
   have e := toldM_out (⟨⟨⟨restl⟩⟩, up, false, client, clean, will, codes⟩ : Mq) ref text id e rfl
   rw [h9] at e
   simp only [Prod.mk.injEq] at e
   rw [← e.1, ← e.2] at h
   exact h⟩
  obtain rfl : R = (s9, a9) := by rw [← HR.out, h9]
  have hmf : ∀ (fn : Fn) (first cap : Array Value) (w : World), (Instr.makeFunc fn first cap).run Tryz.prog w = .ok (.func fn first cap) w := fun _ _ _ _ => rfl
  have cp6 := (bqc HP6.out 0).trans (show _ = some (Value.pointer (some ⟨f, 0, none⟩)) from rfl)
  clear hW6 h9 HAT HF4 HY4 HA4 HE4 HP4 HI4 HI6 HA6 HE6 cd ct HCL HT HM HR
  go_upto_region 7 with (go_at_call 68; refine Calls.mono HGD.out ?_; rintro e w7 ⟨rfl, vW', vC', vA', hf, hk⟩; have HF7 := Amk hf; have HY7 := Amk (blk_kept HY6.out hk.kept (by rintro (e | e | e | e); (omega); (omega); (cases e); exact absurd e (Kd.R_ne HF6.out.own.codes HY6.out (by decide)))); have HP7 := Amk (blk_kept HP6.out hk.kept (by rintro (e | e | e | e); (omega); (omega); (cases e); exact absurd e (Kd.R_ne HF6.out.own.codes HP6.out (by decide)))); clear hf hk; obtain ⟨A7, n7, c7, rfl, _⟩ := R_parts HF7.out.own.will; obtain ⟨A8, n8, c8, rfl, _⟩ := R_parts HF7.out.own.codes)
  have HS7 : Aside0 ((fun W => W.heap[o]? = some (.cells (mqCells s9 (.slice A7 n7 c7) (.slice A8 n8 c8)) 45 (0, 0)) ∧ W.cell? ⟨f + 1, 0, none⟩ = some (.pointer (some ⟨f, 0, none⟩)) ∧ W.cell? ⟨f, 2, none⟩ = some vA') w7.drew) := ⟨⟨HF7.out.own.blk, (bqc HP7.out 0).trans rfl, HF7.out.c2⟩⟩
  try simp only [Lga, Lgz, Lgs, Act.put, Lsa, Lsz, Lss]
  refine wp_region_held_drew (S := (fun W => W.heap[o]? = some (.cells (mqCells s9 (.slice A7 n7 c7) (.slice A8 n8 c8)) 45 (0, 0)) ∧ W.cell? ⟨f + 1, 0, none⟩ = some (.pointer (some ⟨f, 0, none⟩)) ∧ W.cell? ⟨f, 2, none⟩ = some vA')) (by kernel_rfl) HS7.out (fun hHeld => ?_)
  refine tkH 0 (.agg (mqCells s9 (.slice A7 n7 c7) (.slice A8 n8 c8))) hHeld ?_ ?_; (focus intro w_ hSw; exact exec_load_row 45 (.tmp 10) rfl o rfl 45 _ (0, 0) _ hSw.1 Tryz.underlying45 rfl (by kernel_rfl)); try simp only [Lga, Lgz, Lgs, Act.put, Lsa, Lsz, Lss]
  refine tkH 1 ?_ hHeld ?_ ?_; rotate_left; (focus intro w_ hSw; (try dsimp only at hSw); go_simp; (try simp only [hSw]); (try rfl)); rotate_left; try simp only [Lga, Lgz, Lgs, Act.put, Lsa, Lsz, Lss]
  refine tkH 2 ?_ hHeld ?_ ?_; rotate_left; (focus intro w_ hSw; (try dsimp only at hSw); go_simp; (try simp only [hSw]); (try rfl)); rotate_left; try simp only [Lga, Lgz, Lgs, Act.put, Lsa, Lsz, Lss]
  refine tkH 3 ?_ hHeld ?_ ?_; rotate_left; (focus intro w_ hSw; (try dsimp only at hSw); go_simp; (try simp only [hSw]); (try rfl)); rotate_left; try simp only [Lga, Lgz, Lgs, Act.put, Lsa, Lsz, Lss]
  refine tkH 4 ?_ hHeld ?_ ?_; rotate_left; (focus intro w_ hSw; (try dsimp only at hSw); go_simp; (try simp only [hSw]); (try rfl)); rotate_left; try simp only [Lga, Lgz, Lgs, Act.put, Lsa, Lsz, Lss]
  refine wpAnyH_ready (rs := [5]) (by kernel_rfl) (by simp) ?_
  refine AllReadyH.cons rfl (fun K hK => ?_) AllReadyH.nil
  rw [if_pos (by kernel_rfl)]
  simp only [Lga, Lgz, Lgs]
  refine wp_store_blk 45 (.tmp 8) (.tmp 31) (by kernel_rfl) (by kernel_rfl) (g := w.heap.size + 3) (e := 45) (.agg (mqCells s9 (.slice A7 n7 c7) (.slice A8 n8 c8))) (mqCells s9 (.slice A7 n7 c7) (.slice A8 n8 c8)).toList (by kernel_rfl) (by kernel_rfl) (by kernel_rfl) (blk_drew HY7.out) (by kernel_rfl) rfl (by simp [mqCells, Value.oneCell']) (fun W1 HW => ?_)
  have HW1 := Amk HW
  clear HW
  (first | refine hK.out _ _ (And.intro (HW1.out.blk_ HF7.out.drew.own.blk (by omega)) (And.intro ((bqc (HW1.out.blk_ (blk_drew HP7.out) (by omega)) 0).trans rfl) ((bqc (HW1.out.blk_ HF7.out.drew.fb (by omega)) 2).trans rfl))) (fun hHeld => ?_) | refine hK _ _ (And.intro (HW1.out.blk_ HF7.out.drew.own.blk (by omega)) (And.intro ((bqc (HW1.out.blk_ (blk_drew HP7.out) (by omega)) 0).trans rfl) ((bqc (HW1.out.blk_ HF7.out.drew.fb (by omega)) 2).trans rfl))) (fun hHeld => ?_)); try simp only [Lga, Lgz, Lgs, Act.put, Lsa, Lsz, Lss]
  refine tkH 6 ?_ hHeld ?_ ?_; rotate_left; (focus intro w_ hSw; (try dsimp only at hSw); go_simp; (try simp only [hSw]); (try rfl)); rotate_left; try simp only [Lga, Lgz, Lgs, Act.put, Lsa, Lsz, Lss]
  refine wpAnyH_done (by kernel_rfl) ?_ _
  clear hK K
  go_wp2_with fail
  refine bodyPost_ret (told_results rfl rfl HW1.out.blk rfl) rfl ?_
  exact ⟨_, _, _, rfl, R_wrote HF7.out.drew.own.will HW1.out (blk_drew HY7.out) (by decide), R_wrote HF7.out.drew.own.codes HW1.out (blk_drew HY7.out) (by decide), R_wrote HF7.out.drew.row HW1.out (blk_drew HY7.out) (by decide), HW1.out.below HF7.out.drew.bel HF7.out.drew.sz (by omega)⟩
def newMq : Mq := ⟨⟨#[]⟩, false, false, ⟨#[]⟩, false, [], []⟩
def zero7 : Array Value := #[.string ⟨#[]⟩, .bool false, .bool false, .string ⟨#[]⟩, .bool false, .slice none 0 0, .slice none 0 0]
theorem new_calls (w : World) : Calls Tryz.prog 26 #[] w fun e w' => e = .returned (.agg zero7) ∧ Below w.heap.size w w' := by
 go_enter Tryz.func26, Tryz.ntmps26
 go_wp2_with ((with_reducible refine gate_store (t := 45) (p := 0) rfl ?_); refine wpList_store_blk 45 (.tmp 0) (.tmp 1) rfl rfl rfl (g := w.heap.size) (e := 45) (.agg zero7) zero7.toList rfl rfl rfl (heap_alloc_new w _) (by kernel_rfl) rfl (by simp [zero7, Value.oneCell']) ?_; intro W1 hw; have HW1 := Amk hw; clear hw)
 refine bodyPost_ret (results_cell_row rfl _ _ w.heap.size 45 zero7 (0, 0) _ rfl HW1.out.blk Tryz.underlying45 rfl (by kernel_rfl)) rfl ?_
 exact ⟨rfl, HW1.out.below (bal (Below.refl _ _) _) (by simp) (Nat.le_refl _)⟩
def ansF (l : List Int) (i : Nat) : Int := l.getD i 0
theorem answer_calls (v0 v2 : Value) (A : Option Addr) (n c : Nat) (answers : List Int) (i : Nat) (hi : i ≤ 4611686018427387904) (hn : n ≤ 4611686018427387904) (w : World) (hC : (Kd.int .i64).C w A n answers) :
  Calls Tryz.prog 29 #[.agg #[v0, .slice A n c, v2], .int .i64 i] w fun e w' => e = .returned (.int .i64 (ansF answers i)) ∧ Below w.heap.size w w' := by
 have HN : Aside0 (answers.length = n) := ⟨hC.1⟩
 have c1 := (bqc (heap_alloc_new w (.cells #[v0, .slice A n c, v2] 41)) 1).trans (show _ = some (Value.slice A n c) from rfl)
 by_cases h : i < n
 ·
  have hlt : decide ((i : Int) < (n : Int)) = true := decide_eq_true (by omega)
  have hlt2 : decide (i < n) = true := decide_eq_true h
  obtain ⟨ad, rfl, hcell⟩ := Kd.at_int hC (i : Int) (by omega) (by omega)
  simp only [Int.toNat_natCast] at hcell
  have hcell2 : (w.alloc (.cells #[v0, .slice (some ad) n c, v2] 41)).cell? (ad.add i) = some (.int .i64 (rd answers (i : Int))) := (World.cell?_alloc_lt _ _ _ (World.block_lt_of_cell? w _ hcell)).trans hcell
  have HV : Aside0 (rd answers (i : Int) = ansF answers i) := ⟨by simp [rd, ansF]⟩
  clear hcell hC
  go_enter Tryz.func29, Tryz.ntmps29
  go_wp2_with fail
  go_ret
  exact ⟨rfl, bal (Below.refl _ _) _⟩
 ·
  have hge : decide ((i : Int) < (n : Int)) = false := decide_eq_false (by omega)
  have hge2 : decide (i < n) = false := decide_eq_false h
  have HV : Aside0 (ansF answers i = 0) := ⟨by unfold ansF; rw [List.getD_eq_getElem?_getD, List.getElem?_eq_none (by have := HN.out; omega)]; rfl⟩
  clear hC h
  go_enter Tryz.func29, Tryz.ntmps29
  go_wp2_with fail
  go_ret
  exact ⟨by first | rfl | (rw [HV.out]; rfl), bal (Below.refl _ _) _⟩
theorem R_wroteG {α : Type} {d : Kd α} {e base g t : Nat} {ok : Nat → Prop} {v : Value} {xs : List α} {W W1 : World} {cur cs : Array Value} (h : d.R e W base ok v xs) (hw : Wrote W W1 g cs t) (hb : W.heap[g]? = some (.cells cur t (0, 0))) (ht : ∀ q, q ∈ e :: d.E → q ≠ t) : d.R e W1 base ok v xs :=
 Kd.R_mono (Kd.R_grown (Kd.R_types h hb ht) hw.grown (fun k hk he => hk.2 (by injection he))) (fun _ hk => hk.1)
theorem acts_apart {W : World} {base base' : Nat} {vA : Value} {all : List BAct} (hA : kAct.R 57 W base' (fun _ => True) vA all) (x : BAct) (cs : List Value) (h : kAct.M W base (fun _ => True) x cs) : kAct.M W base (fun k => True ∧ some k ≠ vA.ownBlock) x cs := by
 obtain ⟨v2, rfl, g2⟩ := kAct_openM h
 exact kAct_mkM W _ _ x (Kd.R_apart' g2 (Kd.R_typed hA) (by decide))
theorem acts_row {W : World} {base : Nat} {ok : Nat → Prop} {vL : Value} {l : List BAct} (h : kAct.R 57 W base ok vL l) : ∃ A c, vL = .slice A l.length c ∧ l.length ≤ c ∧ ReadsRow (kAct.M W base (fun _ => True)) kAct.sz W A l.length l := by
 obtain ⟨A, c, e, hc, hr⟩ := OwnRow.reads h.2
 exact ⟨A, c, e, hc, ReadsRow.imp_ hr (Below.refl _ _) (fun _ _ hm => kAct.M_mono (fun _ _ => trivial) hm)⟩
theorem row_step {W W1 : World} {base : Nat} {vL vA v1 : Value} {l : List BAct} (hL : kAct.R 57 W base (fun k => some k ≠ vA.ownBlock) vL l) (hg : W.grownBy W1 vA.ownBlock) (hat : v1.ownBlock = vA.ownBlock ∨ ∃ b, v1.ownBlock = some b ∧ W.heap.size ≤ b) : kAct.R 57 W1 base (fun k => some k ≠ v1.ownBlock) vL l := by
 refine Kd.R_mono (Kd.R_grown (Kd.R_bound hL) hg (fun k hk => hk.1)) (fun k hk => ?_)
 rcases hat with e | ⟨b, e, hb⟩
 ·
  rw [e]; exact hk.1
 ·
  rw [e]; intro h; injection h with h; have := hk.2.2.1; omega
theorem row_new {W W1 : World} {base : Nat} {vL vA : Value} {l all : List BAct} (hA : kAct.R 57 W base (fun _ => True) vA all) (hL : kAct.R 57 W1 W.heap.size (fun _ => True) vL l) : kAct.R 57 W1 W.heap.size (fun k => some k ≠ vA.ownBlock) vL l :=
 Kd.R_mono (Kd.R_bound hL) (fun k hk e => by have := Kd.R_lt hA k e.symm; have := hk.2.1; omega)
structure Pl (w0 W : World) (rb cb sb : Nat) (xc : Array Value) (s : Mq) (vW vC vA : Value) (all : List BAct) : Prop where
 sblk : W.heap[sb]? = some (.cells (mqCells s vW vC) 45 (0, 0))
 rblk : W.heap[rb]? = some (.cells zero7 45 (0, 0))
 cblk : W.heap[cb]? = some (.cells xc 41 (0, 0))
 will : kOp.R 64 W w0.heap.size (fun _ => True) vW s.will
 codes : (Kd.int .i64).R 3 W w0.heap.size (fun _ => True) vC s.codes
 row : kAct.R 57 W w0.heap.size (fun _ => True) vA all
 bel : Below w0.heap.size w0 W
 bs : w0.heap.size ≤ sb
 ne : rb ≠ sb
namespace Pl
variable {w0 W W1 : World} {rb cb sb : Nat} {xc : Array Value} {s s' : Mq} {vW vC vA vW' vC' v1 : Value} {all l : List BAct}
theorem sz (h : Pl w0 W rb cb sb xc s vW vC vA all) : w0.heap.size ≤ W.heap.size := h.bel.size
theorem below (h : Pl w0 W rb cb sb xc s vW vC vA all) (hb : Below W.heap.size W W1) : Pl w0 W1 rb cb sb xc s vW vC vA all :=
 ⟨(hb.block _ (blt h.sblk)).trans h.sblk, (hb.block _ (blt h.rblk)).trans h.rblk, (hb.block _ (blt h.cblk)).trans h.cblk, Kd.R_below h.will hb, Kd.R_below h.codes hb, Kd.R_below h.row hb, below_then h.bel h.sz hb, h.bs, h.ne⟩
theorem drew (h : Pl w0 W rb cb sb xc s vW vC vA all) : Pl w0 W.drew rb cb sb xc s vW vC vA all := h.below (bdr (Below.refl _ _))
theorem store (h : Pl w0 W rb cb sb xc s vW vC vA all) (hw : Wrote W W1 sb (mqCells s' vW' vC') 45) (hW : kOp.R 64 W w0.heap.size (fun _ => True) vW' s'.will) (hC : (Kd.int .i64).R 3 W w0.heap.size (fun _ => True) vC' s'.codes) : Pl w0 W1 rb cb sb xc s' vW' vC' vA all :=
 ⟨hw.blk, hw.blk_ h.rblk h.ne, hw.blk_ h.cblk (blk_ne h.cblk h.sblk (by decide)), R_wrote hW hw h.sblk (by decide), R_wrote hC hw h.sblk (by decide), R_wrote h.row hw h.sblk (by decide), hw.below h.bel h.sz h.bs, h.bs, h.ne⟩
theorem rest (h : Pl w0 W rb cb sb xc s vW vC vA all) (r : ByteArray) : Pl w0 (W.setCell ⟨sb, 0, none⟩ (.string r)) rb cb sb xc { s with rest := r } vW vC vA all :=
 ⟨by simpa [mqCells] using blk_set h.sblk 0 (.string r), blk_far h.rblk h.ne _, blk_far h.cblk (blk_ne h.cblk h.sblk (by decide)) _, Kd.R_set h.will h.sblk (by decide) 0 _, Kd.R_set h.codes h.sblk (by decide) 0 _, Kd.R_set h.row h.sblk (by decide) 0 _, below_set h.bel h.bs, h.bs, h.ne⟩
theorem grown (h : Pl w0 W rb cb sb xc s vW vC vA all) (hg : W.grownBy W1 vA.ownBlock) (hB : Below w0.heap.size w0 W1) (hR : kAct.R 57 W1 w0.heap.size (fun _ => True) v1 (all ++ l)) : Pl w0 W1 rb cb sb xc s vW vC v1 (all ++ l) :=
 ⟨blk_grown h.sblk hg (Kd.R_ne h.row h.sblk (by decide)), blk_grown h.rblk hg (Kd.R_ne h.row h.rblk (by decide)), blk_grown h.cblk hg (Kd.R_ne h.row h.cblk (by decide)), R_over57 h.will h.row hg (by decide), R_over57 h.codes h.row hg (by decide), hR, hB, h.bs, h.ne⟩
theorem cell (h : Pl w0 W rb cb sb xc s vW vC vA all) (j : Nat) : W.cell? ⟨sb, j, none⟩ = (mqCells s vW vC)[j]? := bqc h.sblk j
theorem frozen (h : Pl w0 W rb cb sb xc s vW vC vA all) (j : Nat) : W.frozen? ⟨sb, j, none⟩ = false := blk_frozen h.sblk j
end Pl
end Go.Proofs.YtednegmjjjdinaaGreatDoor.Ext
