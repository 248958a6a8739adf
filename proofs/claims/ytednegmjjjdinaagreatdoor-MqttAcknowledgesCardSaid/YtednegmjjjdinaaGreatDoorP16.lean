/- Texts of this claim's author, joined and pruned by a program of his (pack.py): Va, Yk. -/
import Derived.Test.YtednegmjjjdinaaGreatDoorP0
import Derived.Test.YtednegmjjjdinaaGreatDoorP1
import Derived.Test.YtednegmjjjdinaaGreatDoorP2
import Derived.Test.YtednegmjjjdinaaGreatDoorP3
import Derived.Test.YtednegmjjjdinaaGreatDoorP4
import Derived.Test.YtednegmjjjdinaaGreatDoorP5
import Derived.Test.YtednegmjjjdinaaGreatDoorP7
import Derived.Test.YtednegmjjjdinaaGreatDoorP10
import Derived.Test.YtednegmjjjdinaaGreatDoorP11
import Derived.Test.YtednegmjjjdinaaGreatDoorP12
import Derived.Test.YtednegmjjjdinaaGreatDoorP13
import Derived.Test.YtednegmjjjdinaaGreatDoorP14
import Derived.Test.YtednegmjjjdinaaGreatDoorP15
set_option maxRecDepth 100000
set_option maxHeartbeats 4000000
open Go.Proofs.YtednegmjjjdinaaGreatDoorW.PrintWords renaming below_alloc → bal
open Go.Proofs.YtednegmjjjdinaaGreatDoorW.PrintWords.Aside0 renaming mk → Amk
namespace Go.Proofs.YtednegmjjjdinaaGreatDoor.Ext
open Go.RowKit
set_option linter.unusedVariables false
set_option linter.unusedSimpArgs false
theorem lenF_app {l : List UInt8} {n k : Nat} (m : List UInt8) (h : lenF l = some (n, k)) (hk : k ≠ 0) : lenF (l ++ m) = some (n, k) := by
 have h00 : ¬ (some (0, 0) : Option (Nat × Nat)) = some (n, k) := by intro h; simp only [Option.some.injEq, Prod.mk.injEq] at h; omega
 rcases l with _ | ⟨b0, r⟩
 ·
  exact absurd h h00
 ·
  rw [lenF.eq_def] at h
  rw [List.cons_append, lenF.eq_def]
  simp only at h ⊢
  by_cases k0 : b0.toNat < 128
  ·
   rw [if_pos k0] at h ⊢; exact h
  ·
   rw [if_neg k0] at h ⊢
   rcases r with _ | ⟨b1, r⟩
   ·
    exact absurd h h00
   ·
    simp only [List.cons_append] at h ⊢
    by_cases k1 : b1.toNat < 128
    ·
     rw [if_pos k1] at h ⊢; exact h
    ·
     rw [if_neg k1] at h ⊢
     rcases r with _ | ⟨b2, r⟩
     ·
      exact absurd h h00
     ·
      exact h
theorem lenF_none_app {l : List UInt8} (m : List UInt8) (h : lenF l = none) : lenF (l ++ m) = none := by
 rcases l with _ | ⟨b0, r⟩
 ·
  cases h
 ·
  rw [lenF.eq_def] at h
  rw [List.cons_append, lenF.eq_def]
  simp only at h ⊢
  by_cases k0 : b0.toNat < 128
  ·
   rw [if_pos k0] at h; cases h
  ·
   rw [if_neg k0] at h ⊢
   rcases r with _ | ⟨b1, r⟩
   ·
    cases h
   ·
    simp only [List.cons_append] at h ⊢
    by_cases k1 : b1.toNat < 128
    ·
     rw [if_pos k1] at h ⊢; exact h
    ·
     rw [if_neg k1] at h ⊢
     rcases r with _ | ⟨b2, r⟩
     ·
      cases h
     ·
      exact h
theorem nextF_ok {l : List UInt8} {q : Pkt} {n : Nat} (m : List UInt8) (h : nextF l = .ok q n) : nextF (l ++ m) = .ok q n ∧ 2 ≤ n ∧ n ≤ l.length := by
 cases l with
 | nil => cases h
 | cons b r =>
  rw [nextF] at h
  split at h
  ·
   rename_i hf
   cases hl : lenF r with
   | none => rw [hl] at h; cases h
   | some x =>
    obtain ⟨size, wide⟩ := x
    rw [hl] at h
    simp only at h
    split at h
    ·
     cases h
    ·
     rename_i hw
     split at h
     ·
      cases h
     ·
      rename_i hlt
      cases hb : bodyF (b.toNat / 16) (b.toNat % 16) ((r.drop wide).take size) with
      | none => rw [hb] at h; cases h
      | some p =>
       rw [hb] at h
       simp only [NR.ok.injEq] at h
       obtain ⟨rfl, rfl⟩ := h
       refine ⟨?_, by omega, by simp only [List.length_cons]; omega⟩
       rw [List.cons_append, nextF, if_pos hf, lenF_app m hl hw]
       simp only [hw, if_false]
       rw [if_neg (by rw [List.length_append]; omega), List.drop_append_of_le_length (by omega), List.take_append_of_le_length (by rw [List.length_drop]; omega), hb]
  ·
   cases h
theorem nextF_bad {l : List UInt8} (m : List UInt8) (h : nextF l = .bad) : nextF (l ++ m) = .bad := by
 cases l with
 | nil => cases h
 | cons b r =>
  rw [nextF] at h
  split at h
  ·
   rename_i hf
   cases hl : lenF r with
   | none => rw [List.cons_append, nextF, if_pos hf, lenF_none_app m hl]
   | some x =>
    obtain ⟨size, wide⟩ := x
    rw [hl] at h
    simp only at h
    split at h
    ·
     cases h
    ·
     rename_i hw
     split at h
     ·
      cases h
     ·
      rename_i hlt
      cases hb : bodyF (b.toNat / 16) (b.toNat % 16) ((r.drop wide).take size) with
      | some p => rw [hb] at h; cases h
      | none =>
       rw [List.cons_append, nextF, if_pos hf, lenF_app m hl hw]
       simp only [hw, if_false]
       rw [if_neg (by rw [List.length_append]; omega), List.drop_append_of_le_length (by omega), List.take_append_of_le_length (by rw [List.length_drop]; omega), hb]
  ·
   rename_i hf
   rw [List.cons_append, nextF, if_neg hf]
def bindAct (s : Mq) (conn : Int) (text p : ByteArray) : BAct := doAct 3 text [{ zOp with kind := 3, conn := conn, sub := 1, queue := ⟨#[109, 45]⟩ ++ s.client, text := (U.out (M.dotsB p.data.toList)).1, keep := true }]
def binds (s : Mq) (conn : Int) (idt : ByteArray) (n : Nat) (names : List ByteArray) : List BAct := names.mapIdx fun i p => bindAct s conn (if i + 1 = n then idt else ⟨#[]⟩) p
def hearF (s : Mq) (conn : Int) (q : Pkt) : Bool × Mq × List BAct :=
 if q.kind = 1 then connF s conn q.code.toNat q.name q.text q.topic q.will q.clean []
 else if q.kind = 3 then pubR s q.topic q.text q.flags.toNat q.id []
 else if q.kind = 6 then (false, s, [doAct 6 (itoaB q.id) [{ zOp with kind := 6, text := s.client, n := q.id }]])
 else if q.kind = 8 then (false, s, binds s conn (itoaB q.id) q.names.length q.names)
 else if q.kind = 10 then (false, s, unbinds s q.names ++ [sayAct (enc 11 0 (be16 q.id.toNat))])
 else if q.kind = 12 then (false, s, [sayAct (enc 13 0 [])])
 else if q.kind = 14 then (false, ended { s with will := [] }, [endAct])
 else (true, s, [])
def heardF (s : Mq) (conn : Int) (q : Pkt) : Mq × List BAct :=
 if decide (q.kind = 1) = s.up then (ended s, [endAct])
 else if (hearF s conn q).1 = true then (ended (hearF s conn q).2.1, (hearF s conn q).2.2 ++ [endAct])
 else ((hearF s conn q).2.1, (hearF s conn q).2.2)
def nextM (s : Mq) (conn : Int) : Mq × List BAct × Bool :=
 if s.down = true then ({ s with rest := ⟨#[]⟩ }, [], false)
 else match nextF s.rest.data.toList with
  | .more => (s, [], false)
  | .bad => (ended s, [endAct], true)
  | .ok q n => ((heardF { s with rest := ⟨(s.rest.data.toList.drop n).toArray⟩ } conn q).1, (heardF { s with rest := ⟨(s.rest.data.toList.drop n).toArray⟩ } conn q).2, true)
def passedF (ref e : Int) : Bool := if ref = 1 then decide (e = 33) else if ref = 0 ∨ ref = 3 then decide (e ≠ 20) else false
def toldM (s : Mq) (ref : Int) (text : ByteArray) (id : Nat) (e : Int) : Mq × List BAct :=
 if s.down = true then (s, [])
 else if (decide (e = 0) || passedF ref e) = false then (ended s, [endAct])
 else if ref = 2 then (s, [sayAct (enc 2 0 [0, 0])])
 else if ref = 4 then (s, [sayAct (enc 4 0 (be16 id))])
 else if ref = 5 then (s, [sayAct (enc 5 0 (be16 id))])
 else if ref = 6 then (s, [sayAct (enc 7 0 (be16 id))])
 else if ref = 3 then
  if text = ⟨#[]⟩ then ({ s with codes := s.codes ++ [if e = 0 then 0 else 128] }, [])
  else ({ s with codes := [] }, [sayAct (enc 9 0 (be16 id ++ (s.codes ++ [if e = 0 then 0 else 128]).map byteOf))])
 else (s, [])
def numOf (t : ByteArray) : Nat := t.data.toList.foldl (fun n c => n * 10 + (c.toNat - 48)) 0
def tellM (ans : Nat → Int) : Mq → Nat → List BAct → Mq × Nat × List BAct
 | s, n, [] => (s, n, [])
 | s, n, a :: l => if a.kind = 2 then
   let r := toldM s a.ref a.text (numOf a.text) (ans n)
   let t := tellM ans r.1 (n + 1) l
   (t.1, t.2.1, r.2 ++ t.2.2)
  else tellM ans s n l
inductive Drain (ans : Nat → Int) (conn : Int) : Nat → Mq → Nat → Mq → Nat → List BAct → Prop
 | stop {s : Mq} {n : Nat} {a : Mq} : nextM s conn = (a, [], false) → Drain ans conn 0 s n a n []
 | step {k : Nat} {s : Mq} {n : Nat} {a : Mq} {l : List BAct} {s2 : Mq} {n2 : Nat} {r : List BAct} : nextM s conn = (a, l, true) → Drain ans conn k (tellM ans a n l).1 (tellM ans a n l).2.1 s2 n2 r → Drain ans conn (k + 1) s n s2 n2 (l ++ ((tellM ans a n l).2.2 ++ r))
def plus (s : Mq) (m : List UInt8) : Mq := { s with rest := s.rest ++ ⟨m.toArray⟩ }
inductive Heard (ans : Nat → Int) (conn : Int) : List (List UInt8) → Mq → Nat → Mq → Nat → List BAct → Prop
 | nil {s : Mq} {n : Nat} : Heard ans conn [] s n s n []
 | cons {c : List UInt8} {cs : List (List UInt8)} {k : Nat} {s : Mq} {n : Nat} {s1 : Mq} {n1 : Nat} {r1 : List BAct} {s2 : Mq} {n2 : Nat} {r2 : List BAct} : Drain ans conn k (plus s c) n s1 n1 r1 → Heard ans conn cs s1 n1 s2 n2 r2 → Heard ans conn (c :: cs) s n s2 n2 (r1 ++ r2)
theorem plus_list (s : Mq) (m : List UInt8) : (plus s m).rest.data.toList = s.rest.data.toList ++ m := by
 simp [plus]
theorem ba_ext {a b : ByteArray} (h : a.data.toList = b.data.toList) : a = b := by
 rw [ByteArray.ext_iff]; exact Array.ext' h
def Sim (m : List UInt8) (s t : Mq) : Prop := t = plus s m ∨ (s.down = true ∧ s.rest = ⟨#[]⟩ ∧ { t with rest := ⟨#[]⟩ } = s)
theorem connF_rest (s : Mq) (r : ByteArray) (conn : Int) (code : Nat) (name text topic : List UInt8) (will clean : Bool) (acts : List BAct) :
  connF { s with rest := r } conn code name text topic will clean acts = ((connF s conn code name text topic will clean acts).1, { (connF s conn code name text topic will clean acts).2.1 with rest := r }, (connF s conn code name text topic will clean acts).2.2) := by
 unfold connF
 split
 ·
  cases willF code will text topic <;> rfl
 ·
  rfl
theorem hearF_rest (s : Mq) (r : ByteArray) (conn : Int) (q : Pkt) :
  (hearF { s with rest := r } conn q).1 = (hearF s conn q).1 ∧ (hearF { s with rest := r } conn q).2.2 = (hearF s conn q).2.2 ∧
  { (hearF { s with rest := r } conn q).2.1 with rest := ⟨#[]⟩ } = { (hearF s conn q).2.1 with rest := ⟨#[]⟩ } ∧
  ((hearF s conn q).2.1.down = true → s.down = true ∨ ((hearF s conn q).2.1.rest = ⟨#[]⟩ ∧ (hearF { s with rest := r } conn q).2.1 = (hearF s conn q).2.1)) ∧ ((hearF s conn q).2.1.down = false → (hearF s conn q).2.1.rest = s.rest ∧ (hearF { s with rest := r } conn q).2.1.rest = r) := by
 unfold hearF
 split
 ·
  rw [connF_rest]
  refine ⟨rfl, rfl, rfl, ?_, ?_⟩
  ·
   intro h
   left
   unfold connF at h
   split at h
   ·
    cases hw : willF q.code.toNat q.will q.text q.topic <;> rw [hw] at h <;> exact h
   ·
    exact h
  ·
   intro _
   refine ⟨?_, rfl⟩
   unfold connF
   split
   ·
    cases hw : willF q.code.toNat q.will q.text q.topic <;> rfl
   ·
    rfl
 ·
  repeat' split
  all_goals refine ⟨rfl, rfl, rfl, ?_, ?_⟩
  all_goals first
   | exact fun h => Or.inl h
   | exact fun _ => ⟨rfl, rfl⟩
   | exact fun _ => Or.inr ⟨rfl, rfl⟩
   | (intro h; cases h)
theorem ended_sim (m : List UInt8) (s t : Mq) (h : { t with rest := ⟨#[]⟩ } = { s with rest := ⟨#[]⟩ }) : Sim m (ended s) (ended t) := by
 right
 refine ⟨rfl, rfl, ?_⟩
 obtain ⟨r, u, d, c, k, w, z⟩ := s
 obtain ⟨r2, u2, d2, c2, k2, w2, z2⟩ := t
 simp only [ended, Mq.mk.injEq] at h ⊢
 exact ⟨trivial, h.2.1, trivial, h.2.2.2⟩
theorem heardF_plus (s : Mq) (m : List UInt8) (conn : Int) (q : Pkt) (hd : s.down = false) :
  (heardF (plus s m) conn q).2 = (heardF s conn q).2 ∧ Sim m (heardF s conn q).1 (heardF (plus s m) conn q).1 := by
 obtain ⟨h1, h2, h3, h4, h5⟩ := hearF_rest s (s.rest ++ ⟨m.toArray⟩) conn q
 change (hearF (plus s m) conn q).1 = _ at h1
 change (hearF (plus s m) conn q).2.2 = _ at h2
 change { (hearF (plus s m) conn q).2.1 with rest := ⟨#[]⟩ } = _ at h3
 change _ → s.down = true ∨ _ ∧ (hearF (plus s m) conn q).2.1 = _ at h4
 change _ → _ ∧ (hearF (plus s m) conn q).2.1.rest = _ at h5
 unfold heardF
 rw [show (plus s m).up = s.up from rfl]
 split
 ·
  exact ⟨rfl, ended_sim m s (plus s m) rfl⟩
 ·
  rw [h1, h2]
  split
  ·
   exact ⟨rfl, ended_sim m _ _ h3⟩
  ·
   refine ⟨rfl, ?_⟩
   cases hdn : (hearF s conn q).2.1.down with
   | true =>
    rcases h4 hdn with h | ⟨hr, he⟩
    ·
     rw [hd] at h; cases h
    ·
     right
     refine ⟨hdn, hr, ?_⟩
     rw [he]
     show { (hearF s conn q).2.1 with rest := ⟨#[]⟩ } = (hearF s conn q).2.1
     generalize (hearF s conn q).2.1 = x at hr
     cases x
     simp only at hr
     rw [hr]
   | false =>
    obtain ⟨hr, he⟩ := h5 hdn
    left
    show (hearF (plus s m) conn q).2.1 = plus (hearF s conn q).2.1 m
    generalize (hearF s conn q).2.1 = x at *
    generalize (hearF (plus s m) conn q).2.1 = y at *
    cases x; cases y
    simp only [plus, Mq.mk.injEq] at h3 he hr ⊢
    refine ⟨by rw [he, hr], h3.2⟩
theorem nextM_false {s a : Mq} {conn : Int} {l : List BAct} (h : nextM s conn = (a, l, false)) : l = [] ∧ (a = s ∨ a = { s with rest := ⟨#[]⟩ } ∧ s.down = true) := by
 unfold nextM at h
 split at h
 ·
  rename_i hd; simp only [Prod.mk.injEq] at h; exact ⟨h.2.1.symm, .inr ⟨h.1.symm, hd⟩⟩
 ·
  split at h
  ·
   simp only [Prod.mk.injEq] at h; exact ⟨h.2.1.symm, .inl h.1.symm⟩
  ·
   simp only [Prod.mk.injEq] at h; exact absurd h.2.2 (by simp)
  ·
   simp only [Prod.mk.injEq] at h; exact absurd h.2.2 (by simp)
theorem nextM_plus {s a : Mq} {conn : Int} {l : List BAct} (m : List UInt8) (h : nextM s conn = (a, l, true)) : ∃ t, nextM (plus s m) conn = (t, l, true) ∧ Sim m a t := by
 unfold nextM at h
 by_cases hd : s.down = true
 ·
  rw [if_pos hd] at h; simp at h
 ·
  rw [if_neg hd] at h
  have hdf : s.down = false := by simpa using hd
  have hdp : ¬ (plus s m).down = true := hd
  cases hn : nextF s.rest.data.toList with
  | more => rw [hn] at h; simp at h
  | bad =>
   rw [hn] at h
   simp only [Prod.mk.injEq, and_true] at h
   obtain ⟨rfl, rfl⟩ := h
   refine ⟨ended (plus s m), ?_, ended_sim m s (plus s m) rfl⟩
   unfold nextM
   rw [if_neg hdp, plus_list, nextF_bad m hn]
  | ok q n =>
   rw [hn] at h
   simp only [Prod.mk.injEq, and_true] at h
   obtain ⟨ha, hl⟩ := h
   obtain ⟨hk, _, hnl⟩ := nextF_ok m hn
   have hp := heardF_plus { s with rest := ⟨(s.rest.data.toList.drop n).toArray⟩ } m conn q hdf
   have he : plus { s with rest := ⟨(s.rest.data.toList.drop n).toArray⟩ } m = { plus s m with rest := ⟨((plus s m).rest.data.toList.drop n).toArray⟩ } := by
    unfold plus
    simp only [Mq.mk.injEq, and_true]
    refine ba_ext ?_
    simp only [ByteArray.data_append, Array.toList_append]
    rw [List.drop_append_of_le_length hnl]
   rw [he] at hp
   refine ⟨_, ?_, by rw [← ha]; exact hp.2⟩
   unfold nextM
   rw [if_neg hdp, show nextF (plus s m).rest.data.toList = .ok q n from by rw [plus_list]; exact hk]
   simp only
   rw [hp.1, hl]
theorem toldM_sim {s t : Mq} {m : List UInt8} (ref : Int) (text : ByteArray) (id : Nat) (e : Int) (h : Sim m s t) : (toldM t ref text id e).2 = (toldM s ref text id e).2 ∧ Sim m (toldM s ref text id e).1 (toldM t ref text id e).1 := by
 rcases h with rfl | ⟨hd, hr, he⟩
 ·
  unfold toldM
  rw [show (plus s m).down = s.down from rfl]
  repeat' split
  all_goals first
   | exact ⟨rfl, .inl rfl⟩
   | exact ⟨rfl, ended_sim m _ _ rfl⟩
 ·
  have ht : t.down = true := by rw [← hd, ← he]
  unfold toldM
  rw [if_pos hd, if_pos ht]
  exact ⟨rfl, .inr ⟨hd, hr, he⟩⟩
theorem tellM_sim {m : List UInt8} (ans : Nat → Int) (l : List BAct) : ∀ (s t : Mq) (n : Nat), Sim m s t → (tellM ans t n l).2 = (tellM ans s n l).2 ∧ Sim m (tellM ans s n l).1 (tellM ans t n l).1 := by
 induction l with
 | nil => exact fun s t n h => ⟨rfl, h⟩
 | cons a l ih =>
  intro s t n h
  unfold tellM
  split
  ·
   obtain ⟨h1, h2⟩ := toldM_sim a.ref a.text (numOf a.text) (ans n) h
   obtain ⟨h3, h4⟩ := ih _ _ (n + 1) h2
   simp only
   rw [h1, h3]
   exact ⟨rfl, h4⟩
  ·
   exact ih s t n h
theorem nextM_down {s : Mq} (conn : Int) (h : s.down = true) : nextM s conn = ({ s with rest := ⟨#[]⟩ }, [], false) := by unfold nextM; rw [if_pos h]
theorem Drain.down {ans : Nat → Int} {conn : Int} {k : Nat} {s : Mq} {n : Nat} {s2 : Mq} {n2 : Nat} {r : List BAct} (h : Drain ans conn k s n s2 n2 r) (hd : s.down = true) : k = 0 ∧ s2 = { s with rest := ⟨#[]⟩ } ∧ n2 = n ∧ r = [] := by
 cases h with
 | stop h => rw [nextM_down conn hd] at h; simp only [Prod.mk.injEq] at h; exact ⟨rfl, h.1.symm, rfl, rfl⟩
 | step h _ => rw [nextM_down conn hd] at h; simp at h
theorem Drain.det {ans : Nat → Int} {conn : Int} {k : Nat} {s : Mq} {n : Nat} {s2 : Mq} {n2 : Nat} {r : List BAct} (h : Drain ans conn k s n s2 n2 r) : ∀ {k' : Nat} {s2' : Mq} {n2' : Nat} {r' : List BAct}, Drain ans conn k' s n s2' n2' r' → k' = k ∧ s2' = s2 ∧ n2' = n2 ∧ r' = r := by
 induction h with
 | stop h =>
  intro k' s2' n2' r' h'
  cases h' with
  | stop g => rw [h] at g; simp only [Prod.mk.injEq] at g; exact ⟨rfl, g.1.symm, rfl, rfl⟩
  | step g _ => rw [h] at g; simp at g
 | step h _ ih =>
  intro k' s2' n2' r' h'
  cases h' with
  | stop g => rw [h] at g; simp at g
  | step g g2 =>
   rw [h] at g
   simp only [Prod.mk.injEq, and_true] at g
   obtain ⟨rfl, rfl⟩ := g
   obtain ⟨rfl, rfl, rfl, rfl⟩ := ih g2
   exact ⟨rfl, rfl, rfl, rfl⟩
theorem Drain.joined {ans : Nat → Int} {conn : Int} {m : List UInt8} {k : Nat} {s : Mq} {n : Nat} {s1 : Mq} {n1 : Nat} {r1 : List BAct} (h : Drain ans conn k s n s1 n1 r1) : ∀ {t : Mq} {k2 : Nat} {s2 : Mq} {n2 : Nat} {r2 : List BAct}, Sim m s t → Drain ans conn k2 (plus s1 m) n1 s2 n2 r2 → ∃ k3, Drain ans conn k3 t n s2 n2 (r1 ++ r2) := by
 induction h with
 | @stop s n a h =>
  intro t k2 s2 n2 r2 hs h2
  obtain ⟨_, ha⟩ := nextM_false h
  rcases hs with rfl | ⟨hd, hr, he⟩
  ·
   rcases ha with rfl | ⟨rfl, hd⟩
   ·
    exact ⟨k2, h2⟩
   ·
    obtain ⟨_, rfl, rfl, rfl⟩ := h2.down hd
    exact ⟨0, .stop (by rw [nextM_down conn (show (plus s m).down = true from hd)]; rfl)⟩
  ·
   have ha2 : a = s := by
    rcases ha with rfl | ⟨rfl, _⟩
    ·
     rfl
    ·
     cases s; simp only at hr; rw [hr]
   subst ha2
   obtain ⟨_, rfl, rfl, rfl⟩ := h2.down (show (plus a m).down = true from hd)
   have ht : t.down = true := by rw [← hd, ← he]
   refine ⟨0, .stop ?_⟩
   rw [nextM_down conn ht, he]
   cases a
   simp only [plus] at hr ⊢
   rw [hr]
 | @step k s n a l s2 n2 r h h' ih =>
  intro t k2 s3 n3 r3 hs h2
  rcases hs with rfl | ⟨hd, _, _⟩
  ·
   obtain ⟨u, hu, hsim⟩ := nextM_plus m h
   obtain ⟨e1, e2⟩ := tellM_sim ans l a u n hsim
   obtain ⟨k3, h3⟩ := ih e2 h2
   have e : (tellM ans u n l).2.1 = (tellM ans a n l).2.1 := by rw [e1]
   rw [← e] at h3
   have := Drain.step hu h3
   rw [e1] at this
   refine ⟨k3 + 1, ?_⟩
   rw [List.append_assoc, List.append_assoc]
   exact this
  ·
   rw [nextM_down conn hd] at h; simp at h
theorem plus_plus (s : Mq) (a b : List UInt8) : plus (plus s a) b = plus s (a ++ b) := by
 unfold plus
 simp only [Mq.mk.injEq, and_true]
 refine ba_ext ?_
 simp
theorem Heard.whole {ans : Nat → Int} {conn : Int} {cs : List (List UInt8)} : ∀ {c : List UInt8} {k : Nat} {s : Mq} {n : Nat} {s1 : Mq} {n1 : Nat} {r1 : List BAct} {s2 : Mq} {n2 : Nat} {r2 : List BAct}, Drain ans conn k (plus s c) n s1 n1 r1 → Heard ans conn cs s1 n1 s2 n2 r2 → ∃ k', Drain ans conn k' (plus s (c ++ cs.flatten)) n s2 n2 (r1 ++ r2) := by
 induction cs with
 | nil =>
  intro c k s n s1 n1 r1 s2 n2 r2 h h2
  cases h2
  exact ⟨k, by simpa using h⟩
 | cons d cs ih =>
  intro c k s n s1 n1 r1 s2 n2 r2 h h2
  cases h2 with
  | cons h3 h4 =>
   obtain ⟨k3, h5⟩ := h.joined (Or.inl rfl) h3
   rw [plus_plus] at h5
   obtain ⟨k6, h6⟩ := ih h5 h4
   exact ⟨k6, by rw [List.flatten_cons, ← List.append_assoc, ← List.append_assoc]; exact h6⟩
theorem Heard.cut {ans : Nat → Int} {conn : Int} {cs ds : List (List UInt8)} {s : Mq} {n : Nat} {s1 : Mq} {n1 : Nat} {r1 : List BAct} {s2 : Mq} {n2 : Nat} {r2 : List BAct} (h0 : nextM s conn = (s, [], false)) (h1 : Heard ans conn cs s n s1 n1 r1) (h2 : Heard ans conn ds s n s2 n2 r2) (h : cs.flatten = ds.flatten) : s1 = s2 ∧ r1 = r2 := by
 have p0 : plus s [] = s := by cases s; simp only [plus, Mq.mk.injEq, and_true]; exact ba_ext (by simp)
 have hd : Drain ans conn 0 (plus s []) n s n [] := by rw [p0]; exact .stop h0
 obtain ⟨k1, d1⟩ := Heard.whole hd h1
 obtain ⟨k2, d2⟩ := Heard.whole hd h2
 rw [h] at d1
 obtain ⟨_, rfl, _, h⟩ := d1.det d2
 exact ⟨rfl, by simpa using h.symm⟩
structure PktOk (q : Pkt) : Prop where
 code : ∃ c : Nat, q.code = c ∧ c < 256
 flags : ∃ f : Nat, q.flags = f ∧ f < 16 ∧ (q.kind = 3 → f / 2 % 4 ≠ 3)
 id : ∃ i : Nat, q.id = i ∧ i ≤ 65535 ∧ (q.kind = 6 ∨ q.kind = 8 ∨ q.kind = 10 → 1 ≤ i) ∧ (q.kind = 3 → 0 < q.flags.toNat / 2 % 4 → 1 ≤ i)
 name : q.name.length ≤ 65535
 topic : q.topic.length ≤ 65535
 names : q.names.length ≤ 32
 each : ∀ p ∈ q.names, p.size ≤ 65535
theorem textF_lt {l l2 t : List UInt8} (h : textF l = some (t, l2)) : t.length ≤ 65535 := by
 unfold textF at h
 cases h1 : shortF l with
 | none => rw [h1] at h; cases h
 | some x =>
  obtain ⟨a, l3⟩ := x
  simp only [h1, Option.bind_some] at h
  have := Nat.le_of_lt_succ (shortF_lt h1)
  split at h
  ·
   simp only [Option.some.injEq, Prod.mk.injEq] at h
   rw [← h.1, List.length_take]; omega
  ·
   cases h
theorem idF_lt {l l2 : List UInt8} {n : Nat} (h : idF l = some (n, l2)) : 1 ≤ n ∧ n ≤ 65535 := by
 unfold idF at h
 cases h1 : shortF l with
 | none => rw [h1] at h; cases h
 | some x =>
  obtain ⟨a, l3⟩ := x
  simp only [h1, Option.bind_some] at h
  have := Nat.le_of_lt_succ (shortF_lt h1)
  split at h
  ·
   simp only [Option.some.injEq, Prod.mk.injEq] at h
   omega
  ·
   cases h
theorem subLoop_ok (bn bc : Bool) : ∀ (k : Nat) (ns : List ByteArray) (cs : List Int) (l : List UInt8) (ns' : List ByteArray) (cs' : List Int), subLoop bn bc k ns cs l = some (ns', cs') → ns.length ≤ 32 → (∀ p ∈ ns, p.size ≤ 65535) → ns'.length ≤ 32 ∧ ∀ p ∈ ns', p.size ≤ 65535 := by
 intro k
 induction k with
 | zero => intro ns cs l ns' cs' h; cases h
 | succ k ih =>
  intro ns cs l ns' cs' h h1 h2
  rw [subLoop] at h
  split at h
  ·
   simp only [Option.some.injEq, Prod.mk.injEq] at h
   rw [← h.1]; exact ⟨h1, h2⟩
  ·
   cases hn : subN bn ns l with
   | none => rw [hn] at h; cases h
   | some x =>
    obtain ⟨ns2, l2⟩ := x
    simp only [hn, Option.bind_some] at h
    have hns : ∀ p ∈ ns2, p.size ≤ 65535 := by
     unfold subN at hn
     split at hn
     ·
      cases ht : textF l with
      | none => rw [ht] at hn; cases hn
      | some y =>
       obtain ⟨t, l3⟩ := y
       simp only [ht, Option.map_some, Option.some.injEq, Prod.mk.injEq] at hn
       rw [← hn.1]
       intro p hp
       rcases List.mem_append.1 hp with hp | hp
       ·
        exact h2 p hp
       ·
        rw [List.mem_singleton] at hp
        rw [hp]
        have := textF_lt ht
        simpa [ByteArray.size] using this
     ·
      simp only [Option.some.injEq, Prod.mk.injEq] at hn
      rw [← hn.1]; exact h2
    cases hc : subC bc cs l2 with
    | none => rw [hc] at h; cases h
    | some z =>
     obtain ⟨cs2, l4⟩ := z
     simp only [hc, Option.bind_some] at h
     split at h
     ·
      rename_i hb
      exact ih _ _ _ _ _ h hb.1 hns
     ·
      cases h
theorem subF_ok {bn bc : Bool} {k : Int} {l : List UInt8} {n : Nat} {ns : List ByteArray} {cs : List Int} (h : subF bn bc k l = some (n, ns, cs)) : 1 ≤ n ∧ n ≤ 65535 ∧ ns.length ≤ 32 ∧ ∀ p ∈ ns, p.size ≤ 65535 := by
 unfold subF at h
 cases hi : idF l with
 | none => rw [hi] at h; cases h
 | some x =>
  obtain ⟨i, l2⟩ := x
  simp only [hi, Option.bind_some] at h
  split at h
  ·
   cases h
  ·
   cases hs : subLoop bn bc (l2.length + 1) [] [] l2 with
   | none => rw [hs] at h; cases h
   | some y =>
    obtain ⟨ns2, cs2⟩ := y
    simp only [hs, Option.bind_some] at h
    split at h
    ·
     cases h
    ·
     simp only [Option.some.injEq, Prod.mk.injEq] at h
     obtain ⟨rfl, rfl, rfl⟩ := h
     have := subLoop_ok bn bc _ _ _ _ _ _ hs (by simp) (by simp)
     exact ⟨(idF_lt hi).1, (idF_lt hi).2, this⟩
theorem endF_some {p q : Pk} {l l2 : List UInt8} (h : endF p l = some (q, l2)) : q = p := by
 unfold endF at h
 split at h
 ·
  simp only [Option.some.injEq, Prod.mk.injEq] at h; exact h.1.symm
 ·
  cases h
theorem bare_some {o : Option (Pk × List UInt8)} {q : Pkt} (h : bare o = some q) : ∃ x l, o = some (x, l) ∧ q = x.pkt [] [] := by
 unfold bare at h
 cases o with
 | none => cases h
 | some y => obtain ⟨x, l⟩ := y; simp only [Option.map_some, Option.some.injEq] at h; exact ⟨x, l, rfl, h.symm⟩
theorem connectF_ok {k f : Nat} {l l2 : List UInt8} {p : Pk} (h : connectF (pk0 k f) l = some (p, l2)) : p.kind = k ∧ p.flags = f ∧ p.id = 0 ∧ (∃ c : Nat, p.code = c ∧ c < 256) ∧ p.name.length ≤ 65535 ∧ p.topic.length ≤ 65535 := by
 unfold connectF at h
 rcases h1 : textF l with _ | ⟨t, l1⟩
 ·
  rw [h1] at h; cases h
 rw [h1] at h; simp only at h
 split at h
 case isFalse => cases h
 rcases h2 : byteF l1 with _ | ⟨v, l3⟩
 ·
  rw [h2] at h; cases h
 rw [h2] at h; simp only at h
 split at h
 case isFalse => cases h
 rcases h3 : byteF l3 with _ | ⟨c, l4⟩
 ·
  rw [h3] at h; cases h
 rw [h3] at h; simp only at h
 have hc := byteF_lt h3
 split at h
 case isFalse => cases h
 rcases h4 : shortF l4 with _ | ⟨kk, l5⟩
 ·
  rw [h4] at h; cases h
 rw [h4] at h; simp only at h
 rcases h5 : textF l5 with _ | ⟨nm, l6⟩
 ·
  rw [h5] at h; cases h
 rw [h5] at h; simp only at h
 have hn := textF_lt h5
 split at h
 ·
  rcases h6 : textF l6 with _ | ⟨tp, l7⟩
  ·
   rw [h6] at h; cases h
  rw [h6] at h; simp only at h
  have ht := textF_lt h6
  rcases h7 : textF l7 with _ | ⟨tx, l8⟩
  ·
   rw [h7] at h; cases h
  rw [h7] at h; simp only at h
  split at h
  case isFalse => cases h
  simp only [Option.some.injEq, Prod.mk.injEq] at h
  obtain ⟨rfl, _⟩ := h
  exact ⟨rfl, rfl, rfl, ⟨c, rfl, hc⟩, hn, ht⟩
 ·
  simp only [Option.some.injEq, Prod.mk.injEq] at h
  obtain ⟨rfl, _⟩ := h
  exact ⟨rfl, rfl, rfl, ⟨c, rfl, hc⟩, hn, by simp [pk0]⟩
theorem pubEnd_some {p q : Pk} {l l2 : List UInt8} (h : pubEnd p l = some (q, l2)) : q = { p with text := l } := by
 unfold pubEnd at h
 split at h
 ·
  simp only [Option.some.injEq, Prod.mk.injEq] at h; exact h.1.symm
 ·
  cases h
theorem bodyF_ok {k f : Nat} {l : List UInt8} {q : Pkt} (hf : f < 16) (hF : flagsF k f = true) (h : bodyF k f l = some q) : q.kind = k ∧ q.flags = f ∧ PktOk q := by
 have hfl : k = 3 → f / 2 % 4 ≠ 3 := by
  intro e
  unfold flagsF at hF
  rw [if_pos e] at hF
  simp only [Bool.and_eq_true, decide_eq_true_eq] at hF
  exact hF.1
 unfold bodyF at h
 split at h
 ·
  rename_i hk
  obtain ⟨x, l1, g, rfl⟩ := bare_some h; clear h; have h := g; clear g
  rcases h1 : connectF (pk0 k f) l with _ | ⟨p, l2⟩
  ·
   rw [h1] at h; cases h
  rw [h1] at h
  have := endF_some h
  subst this
  obtain ⟨e1, e2, e3, e4, e5, e6⟩ := connectF_ok h1
  exact ⟨e1, e2, ⟨e4, ⟨f, e2, hf, fun e => hfl (by have : x.kind = 3 := e; omega)⟩, ⟨0, e3, by omega, fun e => by have : x.kind = 6 ∨ x.kind = 8 ∨ x.kind = 10 := e; omega, fun e => by have : x.kind = 3 := e; omega⟩, e5, e6, by simp [Pk.pkt], by simp [Pk.pkt]⟩⟩
 split at h
 ·
  rename_i hk
  obtain ⟨x, l1, g, rfl⟩ := bare_some h; clear h; have h := g; clear g
  unfold ackF at h
  rcases h1 : byteF l with _ | ⟨a, l2⟩
  ·
   rw [h1] at h; cases h
  simp only [h1, Option.bind_some] at h
  rcases h2 : byteF l2 with _ | ⟨b, l3⟩
  ·
   rw [h2] at h; cases h
  simp only [h2, Option.bind_some] at h
  split at h
  case isFalse => cases h
  have := endF_some h
  subst this
  have := byteF_lt h2
  exact ⟨rfl, rfl, ⟨⟨b, rfl, this⟩, ⟨f, rfl, hf, fun e => hfl (by have : (k : Int) = 3 := e; omega)⟩, ⟨0, rfl, by omega, fun e => by have : (k : Int) = 6 ∨ (k : Int) = 8 ∨ (k : Int) = 10 := e; omega, fun e => by have : (k : Int) = 3 := e; omega⟩, by simp [Pk.pkt, pk0], by simp [Pk.pkt, pk0], by simp [Pk.pkt], by simp [Pk.pkt]⟩⟩
 split at h
 ·
  rename_i hk
  obtain ⟨x, l1, g, rfl⟩ := bare_some h; clear h; have h := g; clear g
  unfold pubF at h
  rcases h1 : textF l with _ | ⟨t, l2⟩
  ·
   rw [h1] at h; cases h
  simp only [h1, Option.bind_some] at h
  have ht := textF_lt h1
  split at h
  ·
   rcases h2 : idF l2 with _ | ⟨n, l3⟩
   ·
    rw [h2] at h; cases h
   simp only [h2, Option.bind_some] at h
   have := pubEnd_some h
   subst this
   have hi := idF_lt h2
   exact ⟨rfl, rfl, ⟨⟨0, rfl, by omega⟩, ⟨f, rfl, hf, fun e => hfl (by have : (k : Int) = 3 := e; omega)⟩, ⟨n, rfl, hi.2, fun _ => hi.1, fun _ _ => hi.1⟩, by simp [Pk.pkt, pk0], ht, by simp [Pk.pkt], by simp [Pk.pkt]⟩⟩
  ·
   rename_i hq
   have := pubEnd_some h
   subst this
   exact ⟨rfl, rfl, ⟨⟨0, rfl, by omega⟩, ⟨f, rfl, hf, fun e => hfl (by have : (k : Int) = 3 := e; omega)⟩, ⟨0, rfl, by omega, fun e => by have : (k : Int) = 6 ∨ (k : Int) = 8 ∨ (k : Int) = 10 := e; omega, fun _ e => absurd (show 0 < f / 2 % 4 from e) hq⟩, by simp [Pk.pkt, pk0], ht, by simp [Pk.pkt], by simp [Pk.pkt]⟩⟩
 split at h
 ·
  rename_i hk
  obtain ⟨x, l1, g, rfl⟩ := bare_some h; clear h; have h := g; clear g
  rcases h2 : idF l with _ | ⟨n, l3⟩
  ·
   rw [h2] at h; cases h
  simp only [h2, Option.bind_some] at h
  have := endF_some h
  subst this
  have hi := idF_lt h2
  exact ⟨rfl, rfl, ⟨⟨0, rfl, by omega⟩, ⟨f, rfl, hf, fun e => hfl (by have : (k : Int) = 3 := e; omega)⟩, ⟨n, rfl, hi.2, fun _ => hi.1, fun _ _ => hi.1⟩, by simp [Pk.pkt, pk0], by simp [Pk.pkt, pk0], by simp [Pk.pkt], by simp [Pk.pkt]⟩⟩
 have many_ok : ∀ {bn bc : Bool} {kk : Int}, many k f (subF bn bc kk l) = some q → (k = 3 → False) → q.kind = k ∧ q.flags = f ∧ PktOk q := by
  intro bn bc kk h h3
  unfold many at h
  rcases h2 : subF bn bc kk l with _ | ⟨n, ns, cs⟩
  ·
   rw [h2] at h; cases h
  simp only [h2, Option.map_some, Option.some.injEq] at h
  subst h
  obtain ⟨i1, i2, n1, n2⟩ := subF_ok h2
  exact ⟨rfl, rfl, ⟨⟨0, rfl, by omega⟩, ⟨f, rfl, hf, fun e => hfl (by have : (k : Int) = 3 := e; omega)⟩, ⟨n, rfl, i2, fun _ => i1, fun _ _ => i1⟩, by simp [Pk.pkt, pk0], by simp [Pk.pkt, pk0], n1, n2⟩⟩
 split at h
 ·
  exact many_ok h (by omega)
 split at h
 ·
  exact many_ok h (by omega)
 split at h
 ·
  exact many_ok h (by omega)
 ·
  obtain ⟨x, l1, g, rfl⟩ := bare_some h; clear h; have h := g; clear g
  have := endF_some h
  subst this
  exact ⟨rfl, rfl, ⟨⟨0, rfl, by omega⟩, ⟨f, rfl, hf, fun e => hfl (by have : (k : Int) = 3 := e; omega)⟩, ⟨0, rfl, by omega, fun e => by have : (k : Int) = 6 ∨ (k : Int) = 8 ∨ (k : Int) = 10 := e; omega, fun e => by have : (k : Int) = 3 := e; omega⟩, by simp [Pk.pkt, pk0], by simp [Pk.pkt, pk0], by simp [Pk.pkt], by simp [Pk.pkt]⟩⟩
theorem nextF_pkt {l : List UInt8} {q : Pkt} {n : Nat} (h : nextF l = .ok q n) : PktOk q := by
 cases l with
 | nil => cases h
 | cons b r =>
  rw [nextF] at h
  split at h
  ·
   rename_i hf
   cases hl : lenF r with
   | none => rw [hl] at h; cases h
   | some x =>
    obtain ⟨size, wide⟩ := x
    rw [hl] at h
    simp only at h
    split at h
    ·
     cases h
    ·
     split at h
     ·
      cases h
     ·
      cases hb : bodyF (b.toNat / 16) (b.toNat % 16) ((r.drop wide).take size) with
      | none => rw [hb] at h; cases h
      | some p =>
       rw [hb] at h
       simp only [NR.ok.injEq] at h
       rw [← h.1]
       exact (bodyF_ok (Nat.mod_lt _ (by decide)) hf hb).2.2
  ·
   cases h
theorem fold_digits (n : Nat) : (Lib.decDigits n).foldl (fun a c => a * 10 + (c.toNat - 48)) 0 = n := by
 induction n using Nat.strongRecOn with
 | _ n ih =>
  rw [Lib.decDigits]
  split
  ·
   rename_i h
   simp only [List.foldl_cons, List.foldl_nil, UInt8.toNat_ofNat']
   omega
  ·
   rename_i h
   rw [List.foldl_append, ih (n / 10) (by omega)]
   simp only [List.foldl_cons, List.foldl_nil, UInt8.toNat_ofNat']
   omega
theorem numOf_itoa (n : Nat) : numOf (itoaB n) = n := by
 unfold numOf itoaB Lib.itoa
 rw [if_neg (by omega)]
 simpa using fold_digits n
theorem digits_ne (n : Nat) : Lib.decDigits n ≠ [] := by
 rw [Lib.decDigits]; split <;> simp
theorem itoaB_ne (n : Nat) : itoaB n ≠ ⟨#[]⟩ := by
 intro h
 have : (itoaB n).data.toList = [] := by rw [h]
 unfold itoaB Lib.itoa at this
 rw [if_neg (by omega)] at this
 exact digits_ne _ (by simpa using this)
structure MqOk (s : Mq) : Prop where
 will : s.will.length ≤ 1
 codes : s.codes.length ≤ 32
 each : ∀ c ∈ s.codes, c = 0 ∨ c = 128
 client : s.client.size ≤ 14
inductive ActIs (client : ByteArray) : BAct → Prop
 | say (b : List UInt8) : b.head? ≠ some 64 → b.head? ≠ some 80 → ActIs client (sayAct b)
 | fin : ActIs client endAct
 | bare (ref : Int) (ops : List BOp) : (ref = 0 ∨ ref = 1 ∨ ref = 2) → 1 ≤ ops.length → ops.length ≤ 16 → (∀ o ∈ ops, o.kind = 5 → o.mdur = false) → ActIs client (doAct ref ⟨#[]⟩ ops)
 | bind (o : BOp) : o.kind ≠ 5 → ActIs client (doAct 3 ⟨#[]⟩ [o])
 | last (o : BOp) (id : Nat) : 1 ≤ id → id ≤ 65535 → o.kind ≠ 5 → ActIs client (doAct 3 (itoaB id) [o])
 | rel (o : BOp) (id : Nat) : 1 ≤ id → id ≤ 65535 → o.kind ≠ 5 → ActIs client (doAct 6 (itoaB id) [o])
 | ack (o : BOp) (id : Nat) : 1 ≤ id → id ≤ 65535 → o.kind = 5 → o.mdur = true → ActIs client (doAct 4 (itoaB id) [o])
 | recd (o : BOp) (id : Nat) : 1 ≤ id → id ≤ 65535 → o.kind = 5 → o.mdur = true → o.text = client → o.n = id → ActIs client (doAct 5 (itoaB id) [o])
def Flow : Nat → List BAct → Prop
 | c, [] => c = 0
 | c, a :: l => if a.kind = 2 ∧ a.ref = 3 then c < 32 ∧ (if a.text = ⟨#[]⟩ then Flow (c + 1) l else Flow 0 l) else Flow c l
theorem flow_none : ∀ l : List BAct, (∀ a ∈ l, ¬ (a.kind = 2 ∧ a.ref = 3)) → Flow 0 l
 | [], _ => rfl
 | a :: l, h => by
  unfold Flow
  rw [if_neg (h a (by simp))]
  exact flow_none l fun x hx => h x (List.mem_cons_of_mem _ hx)
theorem flow_binds (s : Mq) (conn : Int) (idt : ByteArray) (hi : idt ≠ ⟨#[]⟩) (n : Nat) : ∀ (names : List ByteArray) (j : Nat), j + names.length = n → n ≤ 32 → (names = [] → j = 0) → Flow j (names.mapIdx fun i p => bindAct s conn (if i + 1 + j = n then idt else ⟨#[]⟩) p) := by
 intro names
 induction names with
 | nil => intro j _ _ h; exact h rfl
 | cons p ps ih =>
  intro j hj hn _
  rw [List.length_cons] at hj
  rw [List.mapIdx_cons]
  unfold Flow
  rw [if_pos ⟨rfl, rfl⟩]
  refine ⟨by omega, ?_⟩
  by_cases he : 0 + 1 + j = n
  ·
   have hp : ps = [] := by cases ps with
    | nil => rfl
    | cons _ _ => simp only [List.length_cons] at hj; omega
   subst hp
   have ht : (bindAct s conn (if 0 + 1 + j = n then idt else ⟨#[]⟩) p).text = idt := by rw [if_pos he]; rfl
   rw [ht, if_neg hi]
   rfl
  ·
   have ht : (bindAct s conn (if 0 + 1 + j = n then idt else ⟨#[]⟩) p).text = ⟨#[]⟩ := by rw [if_neg he]; rfl
   rw [ht, if_pos rfl]
   have := ih (j + 1) (by omega) hn (fun e => by subst e; simp only [List.length_nil] at hj; omega)
   have e : (ps.mapIdx fun i p => bindAct s conn (if i + 1 + 1 + j = n then idt else ⟨#[]⟩) p) = ps.mapIdx fun i p => bindAct s conn (if i + 1 + (j + 1) = n then idt else ⟨#[]⟩) p := by
    congr 1; funext i p; rw [show i + 1 + 1 + j = i + 1 + (j + 1) from by omega]
   rw [e]
   exact this
theorem publishF_is {s : Mq} {q : Pkt} (hq : PktOk q) (h3 : q.kind = 3) {a : BAct} (h : publishF s q.topic q.text q.flags.toNat q.id = some a) : ActIs s.client a ∧ ¬ (a.kind = 2 ∧ a.ref = 3) := by
 obtain ⟨i, hi, hi2, _, hip⟩ := hq.id
 obtain ⟨f, hf, hf2, hf3⟩ := hq.flags
 have hft : q.flags.toNat = f := by rw [hf]; simp
 have hip := hip h3
 have hf3 := hf3 h3
 rw [hft] at h hip
 rw [hi] at h
 unfold publishF at h
 cases hm : messageF q.topic q.text with
 | none => rw [hm] at h; cases h
 | some t =>
  rw [hm] at h
  simp only [Option.some.injEq] at h
  split at h
  ·
   rename_i h0
   subst h
   exact ⟨.bare 0 _ (.inl rfl) (by simp) (by simp) (by intro o ho _; rw [List.mem_singleton] at ho; subst ho; simp [pubOp, h0]), by simp [doAct]⟩
  ·
   split at h
   ·
    subst h
    exact ⟨.ack _ i (hip (by omega)) hi2 rfl (by simp [pubOp]; omega), by simp [doAct]⟩
   ·
    subst h
    exact ⟨.recd _ i (hip (by omega)) hi2 rfl (by simp [pubOp]; omega) rfl (by simp), by simp [doAct]⟩
def Good (s : Mq) : Prop := MqOk s ∧ (s.down = false → s.codes = [])
theorem connF_ok {s : Mq} {conn : Int} {code : Nat} {name text topic : List UInt8} {will clean : Bool} (h : MqOk s) :
  MqOk (connF s conn code name text topic will clean []).2.1 ∧ (∀ a ∈ (connF s conn code name text topic will clean []).2.2, ActIs (connF s conn code name text topic will clean []).2.1.client a ∧ ¬ (a.kind = 2 ∧ a.ref = 3)) ∧ (connF s conn code name text topic will clean []).2.2.length ≤ 33 ∧ (connF s conn code name text topic will clean []).2.1.codes = s.codes := by
 unfold connF
 split
 ·
  rename_i hn
  have hl : (nameF name clean conn).length ≤ 14 := by simp only [Bool.and_eq_true, decide_eq_true_eq] at hn; exact hn.2
  cases hw : willF code will text topic with
  | none => exact ⟨h, by simp, by simp, rfl⟩
  | some ws =>
   simp only
   refine ⟨⟨?_, h.codes, h.each, by simpa [ByteArray.size] using hl⟩, ?_, ?_, by first | rfl | trivial⟩
   ·
    unfold willF at hw
    split at hw
    ·
     cases hm : messageF topic text with
     | none => rw [hm] at hw; cases hw
     | some t => rw [hm] at hw; simp only [Option.map_some, Option.some.injEq] at hw; rw [← hw]; simp
    ·
     simp only [Option.some.injEq] at hw; rw [← hw]; simp
   ·
    intro a ha
    unfold connActs openOps at ha
    rw [List.nil_append] at ha
    split at ha
    ·
     simp only [List.mem_cons, List.not_mem_nil, or_false] at ha
     rcases ha with rfl | rfl
     ·
      exact ⟨.bare 1 _ (by simp) (by simp) (by simp) (by simp), by simp [doAct]⟩
     ·
      exact ⟨.bare 2 _ (by simp) (by simp) (by simp) (by simp), by simp [doAct]⟩
    ·
     rw [List.mem_singleton] at ha
     subst ha
     exact ⟨.bare 2 _ (by simp) (by simp) (by simp) (by simp), by simp [doAct]⟩
   ·
    unfold connActs
    split <;> simp
 ·
  refine ⟨h, ?_, by simp, rfl⟩
  intro a ha
  rw [List.nil_append, List.mem_singleton] at ha
  subst ha
  exact ⟨.say _ (by simp [enc]) (by simp [enc]), by simp [sayAct]⟩
theorem hearF_ok {s : Mq} {conn : Int} {q : Pkt} (h : MqOk s) (hc : s.codes = []) (hq : PktOk q) :
  MqOk (hearF s conn q).2.1 ∧ (∀ a ∈ (hearF s conn q).2.2, ActIs (hearF s conn q).2.1.client a) ∧ Flow 0 (hearF s conn q).2.2 ∧ (hearF s conn q).2.2.length ≤ 33 ∧ (hearF s conn q).2.1.codes = [] := by
 unfold hearF
 split
 ·
  obtain ⟨h1, h2, h3, h4⟩ := connF_ok (conn := conn) (code := q.code.toNat) (name := q.name) (text := q.text) (topic := q.topic) (will := q.will) (clean := q.clean) h
  exact ⟨h1, fun a ha => (h2 a ha).1, flow_none _ fun a ha => (h2 a ha).2, h3, by rw [h4, hc]⟩
 split
 ·
  rename_i _ h3
  unfold pubR
  cases hp : publishF s q.topic q.text q.flags.toNat q.id with
  | none => exact ⟨h, by simp [optActs], rfl, by simp [optActs], hc⟩
  | some a =>
   obtain ⟨h1, h2⟩ := publishF_is hq h3 hp
   refine ⟨h, ?_, flow_none _ ?_, by simp [optActs], hc⟩ <;> intro x hx <;> simp only [optActs, List.nil_append, List.mem_singleton] at hx <;> subst hx
   ·
    exact h1
   ·
    exact h2
 obtain ⟨i, hi, hi2, hi3, _⟩ := hq.id
 split
 ·
  rename_i h6
  refine ⟨h, ?_, flow_none _ ?_, by simp, hc⟩ <;> intro x hx <;> rw [List.mem_singleton] at hx <;> subst hx
  ·
   rw [hi]; exact .rel _ i (hi3 (.inl h6)) hi2 (by simp)
  ·
   simp [doAct]
 split
 ·
  rename_i h8
  refine ⟨h, ?_, ?_, by simp [binds]; have := hq.names; omega, hc⟩
  ·
   intro a ha
   unfold binds at ha
   rw [List.mem_mapIdx] at ha
   obtain ⟨j, hj, rfl⟩ := ha
   rw [hi]
   unfold bindAct
   split
   ·
    exact .last _ i (hi3 (.inr (.inl h8))) hi2 (by simp)
   ·
    exact .bind _ (by simp)
  ·
   rw [hi]
   exact flow_binds s conn (itoaB i) (itoaB_ne i) q.names.length q.names 0 (by omega) hq.names (fun _ => rfl)
 split
 ·
  refine ⟨h, ?_, flow_none _ ?_, ?_, hc⟩
  ·
   intro a ha
   rcases List.mem_append.1 ha with ha | ha
   ·
    unfold unbinds at ha
    rw [List.mem_filterMap] at ha
    obtain ⟨p, _, hp⟩ := ha
    cases hd : M.dotsB p.data.toList with
    | none => rw [hd] at hp; cases hp
    | some t =>
     rw [hd] at hp
     simp only [Option.map_some, Option.some.injEq] at hp
     subst hp
     exact .bare 1 _ (by simp) (by simp) (by simp) (by simp)
   ·
    rw [List.mem_singleton] at ha; subst ha
    exact .say _ (by simp [enc]) (by simp [enc])
  ·
   intro a ha
   rcases List.mem_append.1 ha with ha | ha
   ·
    unfold unbinds at ha
    rw [List.mem_filterMap] at ha
    obtain ⟨p, _, hp⟩ := ha
    cases hd : M.dotsB p.data.toList with
    | none => rw [hd] at hp; cases hp
    | some t =>
     rw [hd] at hp
     simp only [Option.map_some, Option.some.injEq] at hp
     subst hp
     simp [unbindAct, doAct]
   ·
    rw [List.mem_singleton] at ha; subst ha
    simp [sayAct]
  ·
   have := List.length_filterMap_le (fun p : ByteArray => (M.dotsB p.data.toList).map (unbindAct s)) q.names
   have := hq.names
   simp only [List.length_append, List.length_singleton, unbinds]; omega
 split
 ·
  refine ⟨h, ?_, flow_none _ ?_, by simp, hc⟩ <;> intro x hx <;> rw [List.mem_singleton] at hx <;> subst hx
  ·
   exact .say _ (by simp [enc]) (by simp [enc])
  ·
   simp [sayAct]
 split
 ·
  refine ⟨⟨by simp [ended], h.codes, h.each, h.client⟩, ?_, flow_none _ ?_, by simp, hc⟩ <;> intro x hx <;> rw [List.mem_singleton] at hx <;> subst hx
  ·
   exact .fin
  ·
   simp [endAct]
 ·
  exact ⟨h, by simp, rfl, by simp, hc⟩
theorem heardF_ok {s : Mq} {conn : Int} {q : Pkt} (h : MqOk s) (hc : s.codes = []) (hq : PktOk q) :
  Good (heardF s conn q).1 ∧ (∀ a ∈ (heardF s conn q).2, ActIs (heardF s conn q).1.client a) ∧ Flow 0 (heardF s conn q).2 ∧ (heardF s conn q).2.length ≤ 34 := by
 obtain ⟨h1, h2, h3, h4, h5⟩ := hearF_ok (conn := conn) h hc hq
 have flow_end : ∀ (l : List BAct) (c : Nat), Flow c l → Flow c (l ++ [endAct]) := by
  intro l
  induction l with
  | nil => intro c h; exact h
  | cons a l ih =>
   intro c h
   rw [List.cons_append]
   unfold Flow at h ⊢
   split
   ·
    rename_i ha
    rw [if_pos ha] at h
    refine ⟨h.1, ?_⟩
    have h := h.2
    split
    ·
     rename_i ht; rw [if_pos ht] at h; exact ih _ h
    ·
     rename_i ht; rw [if_neg ht] at h; exact ih _ h
   ·
    rename_i ha
    rw [if_neg ha] at h
    exact ih _ h
 unfold heardF
 split
 ·
  refine ⟨⟨⟨h.will, h.codes, h.each, h.client⟩, fun e => by cases e⟩, ?_, flow_none _ ?_, by simp⟩ <;> intro x hx <;> rw [List.mem_singleton] at hx <;> subst hx
  ·
   exact .fin
  ·
   simp [endAct]
 ·
  split
  ·
   refine ⟨⟨⟨h1.will, h1.codes, h1.each, h1.client⟩, fun e => by cases e⟩, ?_, flow_end _ _ h3, by rw [List.length_append]; simp; omega⟩
   intro a ha
   rcases List.mem_append.1 ha with ha | ha
   ·
    exact h2 a ha
   ·
    rw [List.mem_singleton] at ha; subst ha; exact .fin
  ·
   exact ⟨⟨h1, fun _ => h5⟩, h2, h3, Nat.le_succ_of_le h4⟩
def left (s : Mq) : Nat := if s.down = true then 0 else s.rest.size + 2
theorem hearF_left {s : Mq} {conn : Int} {q : Pkt} : (hearF s conn q).2.1.down = false → (hearF s conn q).2.1.rest = s.rest := by
 intro h
 obtain ⟨_, _, _, _, h5⟩ := hearF_rest s s.rest conn q
 exact (h5 h).1
theorem nextM_ok {s a : Mq} {conn : Int} {l : List BAct} {b : Bool} (h : Good s) (hn : nextM s conn = (a, l, b)) :
  Good a ∧ (∀ x ∈ l, ActIs a.client x) ∧ (a.down = false → Flow a.codes.length l) ∧ l.length ≤ 34 ∧ a.rest.size ≤ s.rest.size ∧ (b = true → left a + 2 ≤ left s) ∧ left a ≤ left s := by
 unfold nextM at hn
 split at hn
 ·
  rename_i hd
  simp only [Prod.mk.injEq] at hn
  obtain ⟨rfl, rfl, rfl⟩ := hn
  exact ⟨⟨⟨h.1.will, h.1.codes, h.1.each, h.1.client⟩, h.2⟩, by simp, (fun e => by rw [hd] at e; cases e), by simp, Nat.zero_le _, by simp, by simp [left, hd]⟩
 ·
  rename_i hd
  have hdf : s.down = false := by simpa using hd
  split at hn
  ·
   simp only [Prod.mk.injEq] at hn
   obtain ⟨rfl, rfl, rfl⟩ := hn
   exact ⟨h, by simp, (fun e => by rw [h.2 e]; rfl), by simp, Nat.le_refl _, by simp, Nat.le_refl _⟩
  ·
   simp only [Prod.mk.injEq] at hn
   obtain ⟨rfl, rfl, rfl⟩ := hn
   refine ⟨⟨⟨h.1.will, h.1.codes, h.1.each, h.1.client⟩, fun e => by cases e⟩, ?_, (fun e => by cases e), by simp, Nat.zero_le _, ?_, ?_⟩
   ·
    intro x hx; rw [List.mem_singleton] at hx; subst hx; exact .fin
   ·
    simp [left, hdf, ended]
   ·
    simp [left, ended]
  ·
   rename_i q n hq
   simp only [Prod.mk.injEq] at hn
   obtain ⟨rfl, rfl, rfl⟩ := hn
   obtain ⟨_, n2, nl⟩ := nextF_ok [] hq
   have hp := nextF_pkt hq
   have hz : s.rest.size = s.rest.data.toList.length := by rw [Array.length_toList]; rfl
   generalize hs1 : ({ s with rest := ⟨(s.rest.data.toList.drop n).toArray⟩ } : Mq) = s1
   have hs1r : s1.rest.size + 2 ≤ s.rest.size := by rw [← hs1, hz]; show (s.rest.data.toList.drop n).toArray.size + 2 ≤ _; rw [List.size_toArray, List.length_drop]; omega
   have hs1o : MqOk s1 := by rw [← hs1]; exact ⟨h.1.will, h.1.codes, h.1.each, h.1.client⟩
   have hs1d : s1.down = false := by rw [← hs1]; exact hdf
   have hs1c : s1.codes = [] := by rw [← hs1]; exact h.2 hdf
   clear hs1
   obtain ⟨h1, h2, h3, h4⟩ := heardF_ok (conn := conn) hs1o hs1c hp
   have hr : (heardF s1 conn q).1.rest.size ≤ s1.rest.size := by
    unfold heardF
    split
    ·
     exact Nat.zero_le _
    ·
     split
     ·
      exact Nat.zero_le _
     ·
      cases hx : (hearF s1 conn q).2.1.down with
      | false => rw [hearF_left hx]; exact Nat.le_refl _
      | true =>
       obtain ⟨_, _, _, h4, _⟩ := hearF_rest s1 s1.rest conn q
       rcases h4 hx with e | e
       ·
        rw [hs1d] at e; cases e
       ·
        rw [e.1]; exact Nat.zero_le _
   have hl : left (heardF s1 conn q).1 + 2 ≤ left s := by
    unfold left
    rw [if_neg hd]
    split
    ·
     omega
    ·
     omega
   refine ⟨h1, h2, fun e => ?_, h4, by omega, fun _ => hl, by omega⟩
   rw [h1.2 e]; exact h3
theorem toldM_ok {s : Mq} {a : BAct} {l : List BAct} (ha : ActIs s.client a) (h2 : a.kind = 2) (h : MqOk s) (hf : s.down = false → Flow s.codes.length (a :: l)) (e : Int) :
  MqOk (toldM s a.ref a.text (numOf a.text) e).1 ∧ (toldM s a.ref a.text (numOf a.text) e).1.client = s.client ∧ ((toldM s a.ref a.text (numOf a.text) e).1.down = false → Flow (toldM s a.ref a.text (numOf a.text) e).1.codes.length l) ∧ (toldM s a.ref a.text (numOf a.text) e).2.length ≤ 1 ∧ left (toldM s a.ref a.text (numOf a.text) e).1 ≤ left s ∧ (toldM s a.ref a.text (numOf a.text) e).1.rest.size ≤ s.rest.size := by
 unfold toldM
 split
 ·
  rename_i hd
  exact ⟨h, rfl, (fun x => by rw [hd] at x; cases x), by simp, Nat.le_refl _, Nat.le_refl _⟩
 ·
  rename_i hd
  have hdf : s.down = false := by simpa using hd
  have hf := hf hdf
  unfold Flow at hf
  split
  ·
   exact ⟨⟨h.will, h.codes, h.each, h.client⟩, rfl, (fun x => by cases x), by simp, by simp [left, ended], Nat.zero_le _⟩
  ·
   by_cases h3 : a.ref = 3
   ·
    rw [if_pos ⟨h2, h3⟩] at hf
    rw [if_neg (by omega), if_neg (by omega), if_neg (by omega), if_neg (by omega), if_pos h3]
    have he : ∀ c ∈ s.codes ++ [if e = 0 then 0 else 128], c = 0 ∨ c = 128 := by
     intro c hc
     rcases List.mem_append.1 hc with hc | hc
     ·
      exact h.each c hc
     ·
      rw [List.mem_singleton] at hc; subst hc; split <;> simp
    split
    ·
     rename_i ht
     rw [if_pos ht] at hf
     refine ⟨⟨h.will, ?_, he, h.client⟩, rfl, fun _ => ?_, by simp, Nat.le_refl _, Nat.le_refl _⟩
     ·
      rw [List.length_append]; simp; omega
     ·
      have := hf.2; rw [List.length_append]; exact this
    ·
     rename_i ht
     rw [if_neg ht] at hf
     exact ⟨⟨h.will, by simp, by simp, h.client⟩, rfl, fun _ => hf.2, by simp, Nat.le_refl _, Nat.le_refl _⟩
   ·
    rw [if_neg (by simp [h3])] at hf
    repeat' split
    all_goals first
     | exact ⟨h, rfl, fun _ => hf, by simp, Nat.le_refl _, Nat.le_refl _⟩
     | exact absurd ‹a.ref = 3› h3
theorem tellM_ok (ans : Nat → Int) : ∀ (l : List BAct) (s : Mq) (n : Nat), (∀ a ∈ l, ActIs s.client a) → MqOk s → (s.down = false → Flow s.codes.length l) →
  Good (tellM ans s n l).1 ∧ (tellM ans s n l).2.2.length ≤ l.length ∧ left (tellM ans s n l).1 ≤ left s ∧ (tellM ans s n l).1.rest.size ≤ s.rest.size := by
 intro l
 induction l with
 | nil => intro s n _ h hf; exact ⟨⟨h, fun e => List.eq_nil_of_length_eq_zero (hf e)⟩, Nat.le_refl _, Nat.le_refl _, Nat.le_refl _⟩
 | cons a l ih =>
  intro s n ha h hf
  unfold tellM
  split
  ·
   rename_i h2
   obtain ⟨t1, t2, t3, t4, t5, t6⟩ := toldM_ok (ha a (by simp)) h2 h hf (ans n)
   obtain ⟨i1, i2, i3, i4⟩ := ih (toldM s a.ref a.text (numOf a.text) (ans n)).1 (n + 1) (fun x hx => by rw [t2]; exact ha x (List.mem_cons_of_mem _ hx)) t1 t3
   exact ⟨i1, by simp only [List.length_append, List.length_cons]; omega, by simp only; omega, by simp only; omega⟩
  ·
   rename_i h2
   obtain ⟨i1, i2, i3, i4⟩ := ih s n (fun x hx => ha x (List.mem_cons_of_mem _ hx)) h (fun e => by
    have := hf e
    unfold Flow at this
    rwa [if_neg (fun x => h2 x.1)] at this)
   exact ⟨i1, by simp only [List.length_cons]; omega, i3, i4⟩
theorem Drain.run (ans : Nat → Int) (conn : Int) : ∀ (m : Nat) (s : Mq) (n : Nat), left s ≤ m → Good s → ∃ k s2 n2 r, Drain ans conn k s n s2 n2 r := by
 intro m
 induction m using Nat.strongRecOn with
 | _ m ih =>
  intro s n hm h
  obtain ⟨a, l, b, hn⟩ : ∃ a l b, nextM s conn = (a, l, b) := ⟨_, _, _, rfl⟩
  obtain ⟨g1, g2, g3, g4, g5, g6, g7⟩ := nextM_ok h hn
  cases b with
  | false =>
   have := (nextM_false hn).1
   subst this
   exact ⟨0, a, n, [], .stop hn⟩
  | true =>
   have g6 := g6 rfl
   obtain ⟨t1, t2, t3, t4⟩ := tellM_ok ans l a n g2 g1.1 g3
   obtain ⟨k, s2, n2, r, hd⟩ := ih (left a) (by omega) (tellM ans a n l).1 (tellM ans a n l).2.1 t3 t1
   exact ⟨k + 1, s2, n2, _, .step hn hd⟩
theorem Drain.ok {ans : Nat → Int} {conn : Int} {k : Nat} {s : Mq} {n : Nat} {s2 : Mq} {n2 : Nat} {r : List BAct} (h : Drain ans conn k s n s2 n2 r) : Good s → Good s2 ∧ 2 * k + left s2 ≤ left s ∧ r.length ≤ 68 * k ∧ s2.rest.size ≤ s.rest.size := by
 induction h with
 | stop h =>
  intro hg
  obtain ⟨g1, _, _, _, g5, _, g7⟩ := nextM_ok hg h
  exact ⟨g1, by omega, by simp, g5⟩
 | step h _ ih =>
  intro hg
  rename_i k s n a l s2 n2 r _
  obtain ⟨g1, g2, g3, g4, g5, g6, g7⟩ := nextM_ok hg h
  have g6 := g6 rfl
  obtain ⟨t1, t2, t3, t4⟩ := tellM_ok ans l a n g2 g1.1 g3
  obtain ⟨i1, i2, i3, i4⟩ := ih t1
  exact ⟨i1, by omega, by simp only [List.length_append]; omega, by omega⟩
theorem plus_good {s : Mq} (m : List UInt8) (h : Good s) : Good (plus s m) := ⟨⟨h.1.will, h.1.codes, h.1.each, h.1.client⟩, h.2⟩
theorem plus_size (s : Mq) (m : List UInt8) : (plus s m).rest.size = s.rest.size + m.length := by show (s.rest ++ ⟨m.toArray⟩ : ByteArray).size = _; rw [ByteArray.size_append]; rfl
theorem Heard.ok {ans : Nat → Int} {conn : Int} {cs : List (List UInt8)} {s : Mq} {n : Nat} {s2 : Mq} {n2 : Nat} {r : List BAct} (h : Heard ans conn cs s n s2 n2 r) : Good s → Good s2 ∧ r.length + 34 * left s2 ≤ 34 * (left s + cs.flatten.length) ∧ s2.rest.size ≤ s.rest.size + cs.flatten.length := by
 induction h with
 | nil => intro hg; exact ⟨hg, by simp, by simp⟩
 | cons hd _ ih =>
  intro hg
  rename_i c cs k s n s1 n1 r1 s2 n2 r2 _
  obtain ⟨g1, g2, g3, g4⟩ := hd.ok (plus_good c hg)
  obtain ⟨i1, i2, i3⟩ := ih g1
  have hz := plus_size s c
  have hl : left (plus s c) ≤ left s + c.length := by
   unfold left
   rw [hz, show (plus s c).down = s.down from rfl]
   split <;> omega
  simp only [List.flatten_cons, List.length_append]
  exact ⟨i1, by omega, by omega⟩
theorem Heard.run (ans : Nat → Int) (conn : Int) : ∀ (cs : List (List UInt8)) (s : Mq) (n : Nat), Good s → ∃ s2 n2 r, Heard ans conn cs s n s2 n2 r := by
 intro cs
 induction cs with
 | nil => intro s n _; exact ⟨s, n, [], .nil⟩
 | cons c cs ih =>
  intro s n h
  obtain ⟨k, s1, n1, r1, hd⟩ := Drain.run ans conn _ (plus s c) n (Nat.le_refl _) (plus_good c h)
  obtain ⟨s2, n2, r2, hh⟩ := ih s1 n1 (hd.ok (plus_good c h)).1
  exact ⟨s2, n2, _, .cons hd hh⟩
def noEnd (l : List BAct) : Prop := ∀ a ∈ l, a.kind ≠ 3
def EndAt (l : List BAct) (down : Bool) : Prop := (down = false ∧ noEnd l) ∨ (down = true ∧ ∃ p, l = p ++ [endAct] ∧ noEnd p)
theorem noEnd_app {p l : List BAct} (h : noEnd p) (h2 : noEnd l) : noEnd (p ++ l) := fun a ha => (List.mem_append.1 ha).elim (h a) (h2 a)
theorem EndAt.pre {p l : List BAct} {d : Bool} (h : noEnd p) (h2 : EndAt l d) : EndAt (p ++ l) d := by
 rcases h2 with ⟨e, h2⟩ | ⟨e, q, rfl, h2⟩
 ·
  exact .inl ⟨e, noEnd_app h h2⟩
 ·
  exact .inr ⟨e, p ++ q, by rw [List.append_assoc], noEnd_app h h2⟩
theorem connF_ends {s : Mq} {conn : Int} {code : Nat} {name text topic : List UInt8} {will clean : Bool} : noEnd (connF s conn code name text topic will clean []).2.2 ∧ (connF s conn code name text topic will clean []).2.1.down = s.down := by
 unfold connF
 split
 ·
  cases willF code will text topic with
  | none => exact ⟨by simp [noEnd], rfl⟩
  | some ws =>
   refine ⟨?_, rfl⟩
   intro a ha
   simp only [connActs, List.nil_append] at ha
   split at ha
   ·
    simp only [List.mem_cons, List.not_mem_nil, or_false] at ha
    rcases ha with rfl | rfl <;> simp [doAct]
   ·
    rw [List.mem_singleton] at ha; subst ha; simp [doAct]
 ·
  refine ⟨?_, rfl⟩
  intro a ha
  rw [List.nil_append, List.mem_singleton] at ha; subst ha; simp [sayAct]
theorem hearF_ends {s : Mq} {conn : Int} {q : Pkt} (hd : s.down = false) : EndAt (hearF s conn q).2.2 (hearF s conn q).2.1.down ∧ ((hearF s conn q).1 = true → noEnd (hearF s conn q).2.2) := by
 unfold hearF
 split
 ·
  obtain ⟨h1, h2⟩ := connF_ends (s := s) (conn := conn) (code := q.code.toNat) (name := q.name) (text := q.text) (topic := q.topic) (will := q.will) (clean := q.clean)
  exact ⟨.inl ⟨by rw [h2, hd], h1⟩, fun _ => h1⟩
 split
 ·
  have : noEnd (pubR s q.topic q.text q.flags.toNat q.id []).2.2 := by
   unfold pubR
   cases hp : publishF s q.topic q.text q.flags.toNat q.id with
   | none => simp [noEnd, optActs]
   | some a =>
    intro x hx
    simp only [optActs, List.nil_append, List.mem_singleton] at hx
    subst hx
    unfold publishF at hp
    split at hp
    ·
     cases hp
    ·
     simp only [Option.some.injEq] at hp
     rw [← hp]
     split
     ·
      simp [doAct]
     ·
      split <;> simp [doAct]
  exact ⟨.inl ⟨hd, this⟩, fun _ => this⟩
 split
 ·
  have : noEnd [doAct 6 (itoaB q.id) [{ zOp with kind := 6, text := s.client, n := q.id }]] := by intro x hx; rw [List.mem_singleton] at hx; subst hx; simp [doAct]
  exact ⟨.inl ⟨hd, this⟩, fun _ => this⟩
 split
 ·
  have : noEnd (binds s conn (itoaB q.id) q.names.length q.names) := by
   intro x hx
   unfold binds at hx
   rw [List.mem_mapIdx] at hx
   obtain ⟨j, hj, rfl⟩ := hx
   simp [bindAct, doAct]
  exact ⟨.inl ⟨hd, this⟩, fun _ => this⟩
 split
 ·
  have : noEnd (unbinds s q.names ++ [sayAct (enc 11 0 (be16 q.id.toNat))]) := by
   intro x hx
   rcases List.mem_append.1 hx with hx | hx
   ·
    unfold unbinds at hx
    rw [List.mem_filterMap] at hx
    obtain ⟨p, _, hp⟩ := hx
    cases hdd : M.dotsB p.data.toList with
    | none => rw [hdd] at hp; cases hp
    | some t => rw [hdd] at hp; simp only [Option.map_some, Option.some.injEq] at hp; subst hp; simp [unbindAct, doAct]
   ·
    rw [List.mem_singleton] at hx; subst hx; simp [sayAct]
  exact ⟨.inl ⟨hd, this⟩, fun _ => this⟩
 split
 ·
  have : noEnd [sayAct (enc 13 0 [])] := by intro x hx; rw [List.mem_singleton] at hx; subst hx; simp [sayAct]
  exact ⟨.inl ⟨hd, this⟩, fun _ => this⟩
 split
 ·
  exact ⟨.inr ⟨rfl, [], rfl, by simp [noEnd]⟩, fun h => by cases h⟩
 ·
  exact ⟨.inl ⟨hd, by simp [noEnd]⟩, fun _ => by simp [noEnd]⟩
theorem heardF_ends {s : Mq} {conn : Int} {q : Pkt} (hd : s.down = false) : EndAt (heardF s conn q).2 (heardF s conn q).1.down := by
 obtain ⟨h1, h2⟩ := hearF_ends (conn := conn) (q := q) hd
 unfold heardF
 split
 ·
  exact .inr ⟨rfl, [], rfl, by simp [noEnd]⟩
 ·
  split
  ·
   rename_i h; exact .inr ⟨rfl, _, rfl, h2 h⟩
  ·
   exact h1
theorem nextM_ends {s a : Mq} {conn : Int} {l : List BAct} (h : nextM s conn = (a, l, true)) : EndAt l a.down := by
 unfold nextM at h
 split at h
 ·
  simp at h
 ·
  rename_i hd
  split at h
  ·
   simp at h
  ·
   simp only [Prod.mk.injEq, and_true] at h
   obtain ⟨rfl, rfl⟩ := h
   exact .inr ⟨rfl, [], rfl, by simp [noEnd]⟩
  ·
   simp only [Prod.mk.injEq, and_true] at h
   obtain ⟨rfl, rfl⟩ := h
   exact heardF_ends (by simpa using hd)
theorem toldM_down {s : Mq} (ref : Int) (text : ByteArray) (id : Nat) (e : Int) (h : s.down = true) : toldM s ref text id e = (s, []) := by unfold toldM; rw [if_pos h]
theorem toldM_ends {s : Mq} (ref : Int) (text : ByteArray) (id : Nat) (e : Int) (h : s.down = false) : EndAt (toldM s ref text id e).2 (toldM s ref text id e).1.down := by
 have hs : ∀ b, noEnd [sayAct b] := by intro b x hx; rw [List.mem_singleton] at hx; subst hx; simp [sayAct]
 have hn : noEnd [] := by simp [noEnd]
 unfold toldM
 rw [if_neg (by simp [h])]
 split
 ·
  exact .inr ⟨rfl, [], rfl, hn⟩
 ·
  repeat' split
  all_goals first | exact .inl ⟨h, hs _⟩ | exact .inl ⟨h, hn⟩
theorem tellM_down (ans : Nat → Int) : ∀ (l : List BAct) (s : Mq) (n : Nat), s.down = true → (tellM ans s n l).1 = s ∧ (tellM ans s n l).2.2 = [] := by
 intro l
 induction l with
 | nil => exact fun s n _ => ⟨rfl, rfl⟩
 | cons a l ih =>
  intro s n h
  unfold tellM
  split
  ·
   rw [toldM_down _ _ _ _ h]; exact ih s (n + 1) h
  ·
   exact ih s n h
theorem tellM_ends (ans : Nat → Int) : ∀ (l : List BAct) (s : Mq) (n : Nat), s.down = false → EndAt (tellM ans s n l).2.2 (tellM ans s n l).1.down := by
 intro l
 induction l with
 | nil => exact fun s n h => .inl ⟨h, by simp [noEnd, tellM]⟩
 | cons a l ih =>
  intro s n h
  unfold tellM
  split
  ·
   have ht := toldM_ends a.ref a.text (numOf a.text) (ans n) h
   simp only
   cases hd : (toldM s a.ref a.text (numOf a.text) (ans n)).1.down with
   | true =>
    obtain ⟨h1, h2⟩ := tellM_down ans l _ (n + 1) hd
    rw [h1, h2, List.append_nil]; exact ht
   | false =>
    rcases ht with ⟨_, ht⟩ | ⟨e, _⟩
    ·
     exact (ih _ (n + 1) hd).pre ht
    ·
     rw [hd] at e; cases e
  ·
   exact ih s n h
theorem Drain.ends {ans : Nat → Int} {conn : Int} {k : Nat} {s : Mq} {n : Nat} {s2 : Mq} {n2 : Nat} {r : List BAct} (h : Drain ans conn k s n s2 n2 r) : s.down = false → EndAt r s2.down := by
 induction h with
 | stop h =>
  intro hd
  rcases (nextM_false h).2 with rfl | ⟨_, e⟩
  ·
   exact .inl ⟨hd, by simp [noEnd]⟩
  ·
   rw [hd] at e; cases e
 | step h h2 ih =>
  intro hd
  rename_i k s n a l s2 n2 r
  have h1 := nextM_ends h
  cases ha : a.down with
  | true =>
   obtain ⟨t1, t2⟩ := tellM_down ans l a n ha
   rw [t2, List.nil_append]
   have hd2 : (tellM ans a n l).1.down = true := by rw [t1, ha]
   obtain ⟨_, rfl, _, rfl⟩ := h2.down hd2
   rw [List.append_nil]
   have : EndAt l true := by rw [← ha]; exact h1
   simpa [hd2] using this
  | false =>
   have hl : noEnd l := by
    rcases h1 with ⟨_, h⟩ | ⟨e, _⟩
    ·
     exact h
    ·
     rw [ha] at e; cases e
   refine EndAt.pre hl ?_
   have ht := tellM_ends ans l a n ha
   cases htd : (tellM ans a n l).1.down with
   | true =>
    obtain ⟨_, rfl, _, rfl⟩ := h2.down htd
    rw [List.append_nil]
    simpa [htd] using ht
   | false =>
    rcases ht with ⟨_, h⟩ | ⟨e, _⟩
    ·
     exact (ih htd).pre h
    ·
     rw [htd] at e; cases e
theorem Heard.down {ans : Nat → Int} {conn : Int} {cs : List (List UInt8)} {s : Mq} {n : Nat} {s2 : Mq} {n2 : Nat} {r : List BAct} (h : Heard ans conn cs s n s2 n2 r) : s.down = true → r = [] ∧ s2.down = true := by
 induction h with
 | nil => exact fun h => ⟨rfl, h⟩
 | cons hd _ ih =>
  intro h
  obtain ⟨_, rfl, _, rfl⟩ := hd.down (show (plus _ _).down = true from h)
  obtain ⟨rfl, h2⟩ := ih h
  exact ⟨rfl, h2⟩
theorem Heard.ends {ans : Nat → Int} {conn : Int} {cs : List (List UInt8)} {s : Mq} {n : Nat} {s2 : Mq} {n2 : Nat} {r : List BAct} (h : Heard ans conn cs s n s2 n2 r) : s.down = false → EndAt r s2.down := by
 induction h with
 | nil => exact fun h => .inl ⟨h, by simp [noEnd]⟩
 | cons hd hh ih =>
  intro h
  rename_i c cs k s n s1 n1 r1 s2 n2 r2
  have h1 := hd.ends (show (plus s c).down = false from h)
  cases h1d : s1.down with
  | true =>
   obtain ⟨rfl, e⟩ := hh.down h1d
   rw [List.append_nil, e, ← h1d]; exact h1
  | false =>
   rcases h1 with ⟨_, h⟩ | ⟨e, _⟩
   ·
    exact (ih h1d).pre h
   ·
    rw [h1d] at e; cases e
def ackOf (a : BAct) : List UInt8 := if a.kind = 1 ∧ a.bytes.size = 4 ∧ (a.bytes.data.toList.head? = some 64 ∨ a.bytes.data.toList.head? = some 80) then a.bytes.data.toList else []
def ackL (l : List BAct) : List UInt8 := l.flatMap ackOf
theorem ackL_none {client : ByteArray} {l : List BAct} (h : ∀ a ∈ l, ActIs client a) : ackL l = [] := by
 unfold ackL
 rw [List.flatMap_eq_nil_iff]
 intro a ha
 unfold ackOf
 cases h a ha with
 | say b h1 h2 =>
  rw [if_neg]
  rintro ⟨_, _, h | h⟩
  ·
   exact h1 h
  ·
   exact h2 h
 | _ => rw [if_neg]; rintro ⟨h, _⟩; revert h; simp [doAct, endAct]
theorem ack_say (k : Nat) (r : List UInt8) (h : k ≠ 4) (h5 : k ≠ 5) (hk : k < 16) : ackL [sayAct (enc k 0 r)] = [] := by
 unfold ackL
 simp only [List.flatMap_cons, List.flatMap_nil, List.append_nil]
 unfold ackOf
 rw [if_neg]
 rintro ⟨_, _, e | e⟩
 ·
  simp only [sayAct, enc, List.head?_cons, Option.some.injEq] at e
  have := congrArg UInt8.toNat e
  simp only [UInt8.toNat_ofNat', UInt8.reduceToNat] at this
  omega
 ·
  simp only [sayAct, enc, List.head?_cons, Option.some.injEq] at e
  have := congrArg UInt8.toNat e
  simp only [UInt8.toNat_ofNat', UInt8.reduceToNat] at this
  omega
theorem ack_is (k : Nat) (n : Nat) (h : k = 4 ∨ k = 5) : ackL [sayAct (enc k 0 (be16 n))] = [UInt8.ofNat (k * 16), 2, UInt8.ofNat (n / 256), UInt8.ofNat n] := by
 rcases h with rfl | rfl <;> · simp [ackL, ackOf, sayAct, enc, be16, lenEnc, ByteArray.size]
theorem toldM_acks {s : Mq} {a : BAct} (ha : ActIs s.client a) (h2 : a.kind = 2) (e : Int) :
  ∃ o ops, a.ops = o :: ops ∧ ops.length ≤ 15 ∧
   ((o.kind = 5 ∧ o.mdur = true ∧ e = 0 ∧ s.down = false) ↔ ackL (toldM s a.ref a.text (numOf a.text) e).2 ≠ []) ∧
   (∀ x, (ackL (toldM s a.ref a.text (numOf a.text) e).2).head? = some x → ∃ u v : UInt8, ackL (toldM s a.ref a.text (numOf a.text) e).2 = [x, 2, u, v] ∧ (x = 80 → o.text = s.client ∧ o.n = u.toNat * 256 + v.toNat)) := by
 cases hd : s.down with
 | true =>
  rw [toldM_down _ _ _ _ hd]
  have : ∃ o ops, a.ops = o :: ops ∧ ops.length ≤ 15 := by
   cases ha with
   | say b _ _ => cases h2
   | fin => cases h2
   | bare ref ops _ h1 h16 _ =>
    cases ops with
    | nil => simp at h1
    | cons o ops => exact ⟨o, ops, rfl, by simp only [List.length_cons] at h16; omega⟩
   | bind o _ => exact ⟨o, [], rfl, by simp⟩
   | last o _ _ _ _ => exact ⟨o, [], rfl, by simp⟩
   | rel o _ _ _ _ => exact ⟨o, [], rfl, by simp⟩
   | ack o _ _ _ _ _ => exact ⟨o, [], rfl, by simp⟩
   | recd o _ _ _ _ _ _ _ => exact ⟨o, [], rfl, by simp⟩
  obtain ⟨o, ops, h1, h2⟩ := this
  exact ⟨o, ops, h1, h2, by simp [ackL], by simp [ackL]⟩
 | false =>
  have hend : ackL [endAct] = [] := by simp [ackL, ackOf, endAct]
  have hnil : ackL [] = [] := rfl
  cases ha with
  | say b _ _ => cases h2
  | fin => cases h2
  | bare ref ops hr h1 h16 hm =>
   cases ops with
   | nil => simp at h1
   | cons o ops =>
    refine ⟨o, ops, rfl, by simp only [List.length_cons] at h16; omega, ?_⟩
    have hz : ackL (toldM s ref ⟨#[]⟩ (numOf ⟨#[]⟩) e).2 = [] := by
     unfold toldM
     rw [if_neg (by simp [hd])]
     split
     ·
      exact hend
     ·
      rcases hr with rfl | rfl | rfl
      ·
       rfl
      ·
       rfl
      ·
       exact ack_say 2 _ (by decide) (by decide) (by decide)
    show (_ ↔ ackL (toldM s ref ⟨#[]⟩ (numOf ⟨#[]⟩) e).2 ≠ []) ∧ ∀ x, (ackL (toldM s ref ⟨#[]⟩ (numOf ⟨#[]⟩) e).2).head? = some x → _
    rw [hz]
    refine ⟨⟨fun ⟨hk, hu, _⟩ => ?_, fun h => absurd rfl h⟩, by simp⟩
    rw [hm o (by simp) hk] at hu; cases hu
  | bind o hk =>
   refine ⟨o, [], rfl, by simp, ?_⟩
   have hz : ackL (toldM s 3 ⟨#[]⟩ (numOf ⟨#[]⟩) e).2 = [] := by
    unfold toldM
    rw [if_neg (by simp [hd])]
    split
    ·
     exact hend
    ·
     rfl
   show (_ ↔ ackL (toldM s 3 ⟨#[]⟩ (numOf ⟨#[]⟩) e).2 ≠ []) ∧ ∀ x, (ackL (toldM s 3 ⟨#[]⟩ (numOf ⟨#[]⟩) e).2).head? = some x → _
   rw [hz]
   exact ⟨⟨fun ⟨h, _⟩ => absurd h hk, fun h => absurd rfl h⟩, by simp⟩
  | last o id h1 h65 hk =>
   refine ⟨o, [], rfl, by simp, ?_⟩
   have hz : ackL (toldM s 3 (itoaB id) (numOf (itoaB id)) e).2 = [] := by
    unfold toldM
    rw [if_neg (by simp [hd])]
    split
    ·
     exact hend
    ·
     rw [if_neg (by decide), if_neg (by decide), if_neg (by decide), if_neg (by decide), if_pos rfl, if_neg (itoaB_ne id)]
     exact ack_say 9 _ (by decide) (by decide) (by decide)
   show (_ ↔ ackL (toldM s 3 (itoaB id) (numOf (itoaB id)) e).2 ≠ []) ∧ ∀ x, (ackL (toldM s 3 (itoaB id) (numOf (itoaB id)) e).2).head? = some x → _
   rw [hz]
   exact ⟨⟨fun ⟨h, _⟩ => absurd h hk, fun h => absurd rfl h⟩, by simp⟩
  | rel o id h1 h65 hk =>
   refine ⟨o, [], rfl, by simp, ?_⟩
   have hz : ackL (toldM s 6 (itoaB id) (numOf (itoaB id)) e).2 = [] := by
    unfold toldM
    rw [if_neg (by simp [hd])]
    split
    ·
     exact hend
    ·
     exact ack_say 7 _ (by decide) (by decide) (by decide)
   show (_ ↔ ackL (toldM s 6 (itoaB id) (numOf (itoaB id)) e).2 ≠ []) ∧ ∀ x, (ackL (toldM s 6 (itoaB id) (numOf (itoaB id)) e).2).head? = some x → _
   rw [hz]
   exact ⟨⟨fun ⟨h, _⟩ => absurd h hk, fun h => absurd rfl h⟩, by simp⟩
  | ack o id h1 h65 hk hm =>
   refine ⟨o, [], rfl, by simp, ?_⟩
   show (_ ↔ ackL (toldM s 4 (itoaB id) (numOf (itoaB id)) e).2 ≠ []) ∧ ∀ x, (ackL (toldM s 4 (itoaB id) (numOf (itoaB id)) e).2).head? = some x → ∃ u v : UInt8, ackL (toldM s 4 (itoaB id) (numOf (itoaB id)) e).2 = [x, 2, u, v] ∧ _
   by_cases he : e = 0
   ·
    have hz : ackL (toldM s 4 (itoaB id) (numOf (itoaB id)) e).2 = [64, 2, UInt8.ofNat (id / 256), UInt8.ofNat id] := by
     unfold toldM
     rw [if_neg (by simp [hd]), if_neg (by simp [he]), if_neg (by decide), if_pos rfl, numOf_itoa]
     exact ack_is 4 id (.inl rfl)
    rw [hz]
    refine ⟨⟨fun _ => by simp, fun _ => ⟨hk, hm, he, rfl⟩⟩, fun x hx => ⟨UInt8.ofNat (id / 256), UInt8.ofNat id, ?_, ?_⟩⟩
    ·
     simp only [List.head?_cons, Option.some.injEq] at hx; rw [hx]
    ·
     simp only [List.head?_cons, Option.some.injEq] at hx; rintro rfl; exact absurd hx (by decide)
   ·
    have hz : ackL (toldM s 4 (itoaB id) (numOf (itoaB id)) e).2 = [] := by
     unfold toldM
     rw [if_neg (by simp [hd]), if_pos (by simp [he, passedF])]
     exact hend
    rw [hz]
    exact ⟨⟨fun ⟨_, _, h, _⟩ => absurd h he, fun h => absurd rfl h⟩, by simp⟩
  | recd o id h1 h65 hk hm ht hn =>
   refine ⟨o, [], rfl, by simp, ?_⟩
   show (_ ↔ ackL (toldM s 5 (itoaB id) (numOf (itoaB id)) e).2 ≠ []) ∧ ∀ x, (ackL (toldM s 5 (itoaB id) (numOf (itoaB id)) e).2).head? = some x → ∃ u v : UInt8, ackL (toldM s 5 (itoaB id) (numOf (itoaB id)) e).2 = [x, 2, u, v] ∧ _
   by_cases he : e = 0
   ·
    have hz : ackL (toldM s 5 (itoaB id) (numOf (itoaB id)) e).2 = [80, 2, UInt8.ofNat (id / 256), UInt8.ofNat id] := by
     unfold toldM
     rw [if_neg (by simp [hd]), if_neg (by simp [he]), if_neg (by decide), if_neg (by decide), if_pos rfl, numOf_itoa]
     exact ack_is 5 id (.inr rfl)
    rw [hz]
    refine ⟨⟨fun _ => by simp, fun _ => ⟨hk, hm, he, rfl⟩⟩, fun x hx => ⟨UInt8.ofNat (id / 256), UInt8.ofNat id, ?_, fun _ => ⟨ht, ?_⟩⟩⟩
    ·
     simp only [List.head?_cons, Option.some.injEq] at hx; rw [hx]
    ·
     rw [hn]
     simp only [UInt8.toNat_ofNat']
     omega
   ·
    have hz : ackL (toldM s 5 (itoaB id) (numOf (itoaB id)) e).2 = [] := by
     unfold toldM
     rw [if_neg (by simp [hd]), if_pos (by simp [he, passedF])]
     exact hend
    rw [hz]
    exact ⟨⟨fun ⟨_, _, h, _⟩ => absurd h he, fun h => absurd rfl h⟩, by simp⟩
theorem idF_be16 (n : Nat) (l : List UInt8) (h1 : 1 ≤ n) (h2 : n ≤ 65535) : idF (be16 n ++ l) = some (n, l) := by
 have e : shortF (be16 n ++ l) = some (n, l) := by
  simp only [be16, List.cons_append, List.nil_append, shortF, byteF, Option.bind_some, UInt8.toNat_ofNat', Option.some.injEq, Prod.mk.injEq, and_true]
  omega
 unfold idF
 rw [e, Option.bind_some]
 exact if_pos (by omega)
theorem next_enc (k f : Nat) (r : List UInt8) (hk : k ≤ 14) (hf : f < 16) (hF : flagsF k f = true) (hr : r.length < 128) : nextF (enc k f r) = match bodyF k f r with | none => .bad | some q => .ok q (2 + r.length) := by
 have hb : (UInt8.ofNat (k * 16 + f)).toNat = k * 16 + f := by simp only [UInt8.toNat_ofNat']; omega
 have hlb : (UInt8.ofNat r.length).toNat = r.length := by simp only [UInt8.toNat_ofNat']; omega
 unfold enc
 rw [lenEnc, if_pos (by omega)]
 simp only [List.cons_append, List.nil_append]
 rw [nextF, hb, show (k * 16 + f) / 16 = k from by omega, show (k * 16 + f) % 16 = f from by omega, if_pos hF]
 have hlen : lenF (UInt8.ofNat r.length :: r) = some (r.length, 1) := by
  rw [lenF.eq_def]
  simp only
  rw [hlb, if_pos hr]
 rw [hlen]
 simp only
 rw [if_neg (by decide), if_neg (by simp only [List.length_cons]; omega)]
 simp only [List.drop_succ_cons, List.drop_zero, List.take_length]
 rfl
theorem next_ack (k id : Nat) (hk : k = 4 ∨ k = 5 ∨ k = 7 ∨ k = 11) (h1 : 1 ≤ id) (h2 : id ≤ 65535) : nextF (enc k 0 (be16 id)) = .ok ⟨k, 0, id, 0, [], [], 0, false, [], false, [], []⟩ 4 := by
 have hF : flagsF k 0 = true := by rcases hk with rfl | rfl | rfl | rfl <;> rfl
 rw [next_enc k 0 (be16 id) (by omega) (by decide) hF (by simp [be16])]
 have hi := idF_be16 id [] h1 h2
 rw [List.append_nil] at hi
 have hb : bodyF k 0 (be16 id) = some ⟨k, 0, id, 0, [], [], 0, false, [], false, [], []⟩ := by
  unfold bodyF
  rw [if_neg (by omega), if_neg (by omega), if_neg (by omega), if_pos (by omega), hi]
  rfl
 rw [hb]
 rfl
theorem next_ok0 : nextF (enc 2 0 [0, 0]) = .ok ⟨2, 0, 0, 0, [], [], 0, false, [], false, [], []⟩ 4 := by
 rw [next_enc 2 0 [0, 0] (by decide) (by decide) (by decide) (by decide)]
 rfl
theorem subLoop_codes : ∀ (xs : List Int) (k : Nat) (cs : List Int), xs.length < k → cs.length + xs.length ≤ 32 → (∀ c ∈ xs, c = 0 ∨ c = 128) → subLoop false true k [] cs (xs.map byteOf) = some ([], cs ++ xs) := by
 intro xs
 induction xs with
 | nil => intro k cs hk _ _; cases k with
  | zero => omega
  | succ k => rw [List.map_nil, subLoop, if_pos rfl, List.append_nil]
 | cons x xs ih =>
  intro k cs hk hl hx
  cases k with
  | zero => simp at hk
  | succ k =>
   simp only [List.length_cons] at hk hl
   rw [List.map_cons, subLoop, if_neg (by simp)]
   have hb : ((byteOf x).toNat : Int) = x := by
    rcases hx x (by simp) with rfl | rfl <;> decide
   simp only [subN, subC, Bool.false_eq_true, if_false, Option.bind_some, if_true, byteF, Option.map_some]
   rw [if_pos ⟨by simp, by rw [List.length_append]; simp; omega⟩, hb, ih k (cs ++ [x]) (by omega) (by rw [List.length_append]; simp; omega) (fun c hc => hx c (List.mem_cons_of_mem _ hc))]
   simp
theorem next_suback (id : Nat) (cs : List Int) (h1 : 1 ≤ id) (h2 : id ≤ 65535) (hn : cs ≠ []) (hl : cs.length ≤ 32) (hc : ∀ c ∈ cs, c = 0 ∨ c = 128) : nextF (enc 9 0 (be16 id ++ cs.map byteOf)) = .ok ⟨9, 0, id, 0, [], [], 0, false, [], false, [], cs⟩ (4 + cs.length) := by
 have hlen : (be16 id ++ cs.map byteOf).length = 2 + cs.length := by simp [be16]; omega
 rw [next_enc 9 0 _ (by decide) (by decide) (by decide) (by omega)]
 have hb : bodyF 9 0 (be16 id ++ cs.map byteOf) = some ⟨9, 0, id, 0, [], [], 0, false, [], false, [], cs⟩ := by
  unfold bodyF
  rw [if_neg (by decide), if_neg (by decide), if_neg (by decide), if_neg (by decide), if_neg (by decide), if_neg (by decide), if_pos rfl]
  unfold subF
  rw [idF_be16 id _ h1 h2, Option.bind_some]
  simp only
  rw [if_neg (by simpa using hn), subLoop_codes cs _ [] (by simp) (by simpa using hl) hc, Option.bind_some]
  simp only [List.nil_append]
  rw [if_neg]
  ·
   rfl
  ·
   rw [List.any_eq_true]
   rintro ⟨c, hcm, hb⟩
   rcases hc c hcm with rfl | rfl
   ·
    exact absurd hb (by decide)
   ·
    exact absurd hb (by decide)
 rw [hb]
 simp only [NR.ok.injEq, true_and]
 omega
end Go.Proofs.YtednegmjjjdinaaGreatDoor.Ext
namespace Go.Proofs.YtednegmjjjdinaaGreatDoor.Ext
open Go.RowKit Go.Proofs.YtednegmjjjdinaaGreatDoorW.PrintWords Go.Proofs.YtednegmjjjdinaaGreatDoorW.PrintLast Go.Proofs.YtednegmjjjdinaaGreatDoorW.PrintMore
set_option linter.unusedVariables false
set_option linter.unusedSimpArgs false
theorem binds_snoc (s : Mq) (conn : Int) (idt : ByteArray) (n : Nat) (ps : List ByteArray) (p : ByteArray) : binds s conn idt n (ps ++ [p]) = binds s conn idt n ps ++ [bindAct s conn (if ps.length + 1 = n then idt else ⟨#[]⟩) p] := by
 unfold binds; exact List.mapIdx_concat
theorem hear_sub (w0 w : World) (f o : Nat) (s : Mq) (conn : Int) (acts : List BAct) (vW vC vA : Value) (h : Fr w0 w f o s conn acts vW vC vA) (hl : acts.length ≤ 1048000) (flags id code keep : Int) (name text topic : List UInt8) (will clean : Bool) (vD : Value) (AN : Option Addr) (cN : Nat) (names : List ByteArray) (hN : Kd.string.R 9 w w0.heap.size (fun _ => True) (.slice AN names.length cN) names) (hnc : names.length ≤ cN) (hn32 : names.length ≤ 32) (hns : ∀ p ∈ names, p.size ≤ 131072) (hG : WI w0) (hcs : s.client.size ≤ 1048576) (hid0 : 0 ≤ id) (hid1 : id ≤ 65535) :
  Calls Tryz.prog 71 #[.pointer (some ⟨f, 0, none⟩), .agg #[.int .i64 8, .int .i64 flags, .int .i64 id, .int .i64 code, .string ⟨name.toArray⟩, .string ⟨text.toArray⟩, .int .i64 keep, .bool will, .string ⟨topic.toArray⟩, .bool clean, .slice AN names.length cN, vD]] w (FPost w0 w f o conn vA vC false s (acts ++ binds s conn (itoaB id) names.length names)) := by
 have HF := Amk (h.alloc (.cells (#[.int .i64 8, .int .i64 flags, .int .i64 id, .int .i64 code, .string ⟨name.toArray⟩, .string ⟨text.toArray⟩, .int .i64 keep, .bool will, .string ⟨topic.toArray⟩, .bool clean, .slice AN names.length cN, vD]) 86))
 have HL := Amk hl
 have HN := Amk (Kd.R_below hN (bal (Below.refl _ _) (.cells (#[.int .i64 8, .int .i64 flags, .int .i64 id, .int .i64 code, .string ⟨name.toArray⟩, .string ⟨text.toArray⟩, .int .i64 keep, .bool will, .string ⟨topic.toArray⟩, .bool clean, .slice AN names.length cN, vD]) 86)))
 have H32 := Amk hn32
 have HNS := Amk hns
 have HG := Amk hG
 have HI : Aside0 (∀ W, WI W → Calls Tryz.prog 54 #[.int .i64 id] W fun e w' => e = .returned (.string (itoaB id)) ∧ Below W.heap.size W w') := ⟨fun W hG => itoa_calls id (by omega) (by omega) W hG⟩
 have HBX := Amk (heap_alloc_new w (.cells (#[.int .i64 8, .int .i64 flags, .int .i64 id, .int .i64 code, .string ⟨name.toArray⟩, .string ⟨text.toArray⟩, .int .i64 keep, .bool will, .string ⟨topic.toArray⟩, .bool clean, .slice AN names.length cN, vD]) 86))
 have HQ : Aside0 (∀ W, Calls Tryz.prog 85 #[.string s.client] W fun e w' => e = .returned (.string (⟨#[109, 45]⟩ ++ s.client)) ∧ Below W.heap.size W w') := ⟨fun W => (QT.mqtt_queue.calls s.client _ W (by unfold QT.mqtt_queue.f; rw [if_pos (by omega)])).mono (by rintro e w' ⟨rfl, hd⟩; exact ⟨rfl, hd.below⟩)⟩
 clear hcs h hl hN hn32 hns hG hnc hid0 hid1
 obtain ⟨nn, hnn⟩ : ∃ nn, nn = names.length := ⟨_, rfl⟩
 rw [← hnn]
 rw [← hnn] at HF HN H32 HBX
 have HNN := Amk hnn
 clear hnn
 go_enter Tryz.func71, Tryz.ntmps71
 go_wp2_with fail
 go_loopg [49] nn (fun kq v49 wx => ∃ j vW' vC' vA', v49 = .int .i64 (j : Nat) ∧ j + kq = nn ∧ Aside0 (Fr w0 wx f o s conn (acts ++ binds s conn (itoaB id) nn (names.take j)) vW' vC' vA') ∧ Aside0 (Went w wx f o vA vC vA' vC') ∧ Aside0 (wx.heap[w.heap.size]? = some (.cells (#[.int .i64 8, .int .i64 flags, .int .i64 id, .int .i64 code, .string ⟨name.toArray⟩, .string ⟨text.toArray⟩, .int .i64 keep, .bool will, .string ⟨topic.toArray⟩, .bool clean, .slice AN nn cN, vD]) 86 (0, 0))) ∧ Aside0 (Kd.string.R 9 wx w0.heap.size (fun _ => True) (.slice AN nn cN) names))
 case atStart => exact ⟨0, vW, vC, vA, rfl, by omega, ⟨by simpa [binds] using HF.out⟩, ⟨Went.after (bal (Below.refl _ _) _) (Went.refl _ _ _ _ _)⟩, HBX, HN⟩
 case round =>
  obtain ⟨j, vW', vC', vA', rfl, hj, HF2, HW2, HBX2, HN2⟩ := hrel
  clear HF HBX HN
  cases gk with
  | zero =>
   have hge : decide ((j : Int) < (nn : Int)) = false := decide_eq_false (by omega)
   have hjn : j = names.length := by rw [← HNN.out]; omega
   have HFE : Aside0 (Fr w0 wr f o s conn (acts ++ binds s conn (itoaB id) nn names) vW' vC' vA') := ⟨by have := HF2.out; rwa [hjn, List.take_length] at this⟩
   clear hjn
   go_wp2_with fail
   go_end0
   exact ⟨rfl, _, _, _, HFE.out, HW2.out⟩
  | succ g =>
   have hlt : decide ((j : Int) < (nn : Int)) = true := decide_eq_true (by omega)
   have hjl : j < names.length := by have := HNN.out; omega
   have hjb : j < 1048576 := by have := H32.out; omega
   have hnb : nn ≤ 32 := H32.out
   obtain ⟨hn1, hn2, hC⟩ := Kd.R_reads' HN2.out
   rw [← hn1] at hC
   obtain ⟨ad, rfl, hcell⟩ := Kd.at_string hC (j : Int) (by omega) (by omega)
   simp only [Int.toNat_natCast] at hcell
   obtain ⟨p, hp⟩ : ∃ p, rdOf ByteArray.empty names (j : Int) = p := ⟨_, rfl⟩
   rw [hp] at hcell
   have hpn : p = names[j] := by rw [← hp]; simp [rdOf, hjl]
   have HT0 : Aside0 (binds s conn (itoaB id) nn (names.take (j + 1)) = binds s conn (itoaB id) nn (names.take j) ++ [bindAct s conn (if j + 1 = nn then itoaB id else ⟨#[]⟩) p]) := ⟨by rw [List.take_succ_eq_append_getElem hjl, ← hpn, binds_snoc, List.length_take_of_le (by omega)]⟩
   have hps : p.size ≤ 131072 := HNS.out p (by rw [hpn]; exact List.getElem_mem hjl)
   obtain ⟨⟨l⟩⟩ := p
   have HGr := Amk (HG.out.below HF2.out.bel)
   have HD0 := Amk (U.dots_calls l (by simpa [ByteArray.size] using hps))
   obtain ⟨tp, htp⟩ : ∃ tp, (U.out (M.dotsB l)).1 = tp := ⟨_, rfl⟩
   obtain ⟨er, her⟩ : ∃ er, (U.out (M.dotsB l)).2 = er := ⟨_, rfl⟩
   rw [htp, her] at HD0
   have hul : (binds s conn (itoaB id) nn (names.take j)).length ≤ 32 := by unfold binds; rw [List.length_mapIdx, List.length_take]; omega
   have HLL : Aside0 ((acts ++ binds s conn (itoaB id) nn (names.take j)).length ≤ 1048576) := ⟨by have := HL.out; simp only [List.length_append]; omega⟩
   have HOP : Aside0 (∀ txt, bindAct s conn txt ⟨⟨l⟩⟩ = doAct 3 txt [({ zOp with kind := 3, conn := conn, sub := 1, queue := ⟨#[109, 45]⟩ ++ s.client, text := tp, keep := true } : BOp)]) := ⟨fun txt => by unfold bindAct; rw [← htp]⟩
   clear hul hps hpn hp hC hn1 hn2 htp her
   by_cases hlast : j + 1 = nn
   ·
    have HT : Aside0 (binds s conn (itoaB id) nn (names.take (j + 1)) = binds s conn (itoaB id) nn (names.take j) ++ [doAct 3 (itoaB id) [({ zOp with kind := 3, conn := conn, sub := 1, queue := ⟨#[109, 45]⟩ ++ s.client, text := tp, keep := true } : BOp)]]) := ⟨by rw [HT0.out, if_pos hlast, HOP.out]⟩
    have hq1 : ((j : Int) == (nn : Int) - 1) = true := by rw [beq_iff_eq]; omega
    have hq2 : decide ((j : Int) = (nn : Int) - 1) = true := decide_eq_true (by omega)
    have c10 := (blk_cell HBX2.out 10).trans (show _ = some (Value.slice (some ad) nn cN) from rfl)
    clear HT0 HOP
    go_upto_region 17 with (first
     | (go_at_call 44; refine Calls.mono (HD0.out _ HGr.out) ?_; rintro e w1 ⟨rfl, hb⟩; have HB1 := Amk hb; have HF3 := Amk (HF2.out.below hb); have HX3 := Amk ((hb.block _ (blk_lt HBX2.out)).trans HBX2.out); have HW3 := Amk (HW2.out.below hb); have HN3 := Amk (Kd.R_below HN2.out hb); have HG3 := Amk (HGr.out.below hb); have c10 := (blk_cell HX3.out 10).trans (show _ = some (Value.slice (some ad) nn cN) from rfl); have c2 := (blk_cell HX3.out 2).trans (show _ = some (Value.int .i64 id) from rfl); clear hb)
     | (go_at_call 54; refine Calls.mono (HI.out _ HG3.out) ?_; rintro e w2 ⟨rfl, hb⟩; have HF4 := Amk (HF3.out.below hb); have HX4 := Amk ((hb.block _ (blk_lt HX3.out)).trans HX3.out); have HW4 := Amk (HW3.out.below hb); have HN4 := Amk (Kd.R_below HN3.out hb); clear hb))
    have HFD := Amk HF4.out.drew
    have ctd := (And.intro HFD.out.c0 (And.intro HFD.out.c1 ((HFD.out.cell 3).trans (show _ = some (Value.string s.client) from rfl))))
    go_region_held3 (fun W => W.cell? ⟨f, 0, none⟩ = some (.pointer (some ⟨o, 0, none⟩)) ∧ W.cell? ⟨f, 1, none⟩ = some (.int .i64 conn) ∧ W.cell? ⟨o, 3, none⟩ = some (.string s.client)) (first | with_reducible exact ct6 | with_reducible exact ct5 | with_reducible exact ctd | exact (And.intro (HF5.out.alloc _).c0 (And.intro (HF5.out.alloc _).c1 (((HF5.out.alloc _).cell 3).trans (show _ = some (Value.string s.client) from rfl))))) (first
     | (go_at_call 85; refine Calls.mono (HQ.out _) ?_; rintro e w5 ⟨rfl, hb⟩; have HB5 := Amk hb; have HF5 := Amk (HFD.out.below hb); have ct5 := (And.intro HF5.out.c0 (And.intro HF5.out.c1 ((HF5.out.cell 3).trans (show _ = some (Value.string s.client) from rfl)))); clear hb)
     | (go_at_call 126; refine Calls.mono (do_calls w0 _ f o s conn _ _ _ _ (HF5.out.alloc _) HLL.out 3 (itoaB id) _ 1 [({ zOp with kind := 3, conn := conn, sub := 1, queue := ⟨#[109, 45]⟩ ++ s.client, text := tp, keep := true } : BOp)] (ops_one (x := ({ zOp with kind := 3, conn := conn, sub := 1, queue := ⟨#[109, 45]⟩ ++ s.client, text := tp, keep := true } : BOp)) (heap_alloc_new _ _)) (one_le _)) ?_; rintro e w6 ⟨rfl, vW2, vC2, vA2, hf, hk⟩; have HF6 := Amk hf; have HK6 := Amk hk; have ct6 := (And.intro HF6.out.c0 (And.intro HF6.out.c1 ((HF6.out.cell 3).trans (show _ = some (Value.string s.client) from rfl)))); clear hf hk))
    all_goals have HWA := Amk ((((HW4.out.below (below_drew1 (Below.refl _ _))).below HB5.out).below (bal (Below.refl _ _) _)).trans HK6.out)
    all_goals have HXA := Amk (blk_kept (blk_alloc ((HB5.out.block _ (blk_lt (blk_drew HX4.out))).trans (blk_drew HX4.out)) _) HK6.out.kept (HF5.out.far86 ((HB5.out.block _ (blk_lt (blk_drew HX4.out))).trans (blk_drew HX4.out))))
    all_goals have HNA := Amk (R_went (Kd.R_below (Kd.R_below (Kd.R_below HN4.out (below_drew1 (Below.refl _ _))) HB5.out) (bal (Below.refl _ _) _)) (HF5.out.alloc _) HK6.out)
    all_goals go_wp2_with fail
    all_goals go_roundg g
    case rel => exact ⟨j + 1, vW2, vC2, vA2, by go_num, by omega, ⟨by rw [HT.out, ← List.append_assoc]; exact HF6.out⟩, HWA, HXA, HNA⟩
    case measure => omega
   ·
    have HT : Aside0 (binds s conn (itoaB id) nn (names.take (j + 1)) = binds s conn (itoaB id) nn (names.take j) ++ [doAct 3 ⟨#[]⟩ [({ zOp with kind := 3, conn := conn, sub := 1, queue := ⟨#[109, 45]⟩ ++ s.client, text := tp, keep := true } : BOp)]]) := ⟨by rw [HT0.out, if_neg hlast, HOP.out]⟩
    have hq1 : ((j : Int) == (nn : Int) - 1) = false := by rw [beq_eq_false_iff_ne]; omega
    have hq2 : decide ((j : Int) = (nn : Int) - 1) = false := decide_eq_false (by omega)
    clear HT0 HOP
    go_upto_region 17 with (first
     | (go_at_call 44; refine Calls.mono (HD0.out _ HGr.out) ?_; rintro e w1 ⟨rfl, hb⟩; have HB1 := Amk hb; have HF4 := Amk (HF2.out.below hb); have HX4 := Amk ((hb.block _ (blk_lt HBX2.out)).trans HBX2.out); have HW4 := Amk (HW2.out.below hb); have HN4 := Amk (Kd.R_below HN2.out hb); have c10 := (blk_cell HX4.out 10).trans (show _ = some (Value.slice (some ad) nn cN) from rfl); clear hb))
    have HFD := Amk HF4.out.drew
    have ctd := (And.intro HFD.out.c0 (And.intro HFD.out.c1 ((HFD.out.cell 3).trans (show _ = some (Value.string s.client) from rfl))))
    go_region_held3 (fun W => W.cell? ⟨f, 0, none⟩ = some (.pointer (some ⟨o, 0, none⟩)) ∧ W.cell? ⟨f, 1, none⟩ = some (.int .i64 conn) ∧ W.cell? ⟨o, 3, none⟩ = some (.string s.client)) (first | with_reducible exact ct6 | with_reducible exact ct5 | with_reducible exact ctd | exact (And.intro (HF5.out.alloc _).c0 (And.intro (HF5.out.alloc _).c1 (((HF5.out.alloc _).cell 3).trans (show _ = some (Value.string s.client) from rfl))))) (first
     | (go_at_call 85; refine Calls.mono (HQ.out _) ?_; rintro e w5 ⟨rfl, hb⟩; have HB5 := Amk hb; have HF5 := Amk (HFD.out.below hb); have ct5 := (And.intro HF5.out.c0 (And.intro HF5.out.c1 ((HF5.out.cell 3).trans (show _ = some (Value.string s.client) from rfl)))); clear hb)
     | (go_at_call 126; refine Calls.mono (do_calls w0 _ f o s conn _ _ _ _ (HF5.out.alloc _) HLL.out 3 ⟨#[]⟩ _ 1 [({ zOp with kind := 3, conn := conn, sub := 1, queue := ⟨#[109, 45]⟩ ++ s.client, text := tp, keep := true } : BOp)] (ops_one (x := ({ zOp with kind := 3, conn := conn, sub := 1, queue := ⟨#[109, 45]⟩ ++ s.client, text := tp, keep := true } : BOp)) (heap_alloc_new _ _)) (one_le _)) ?_; rintro e w6 ⟨rfl, vW2, vC2, vA2, hf, hk⟩; have HF6 := Amk hf; have HK6 := Amk hk; have ct6 := (And.intro HF6.out.c0 (And.intro HF6.out.c1 ((HF6.out.cell 3).trans (show _ = some (Value.string s.client) from rfl)))); clear hf hk))
    all_goals have HWA := Amk ((((HW4.out.below (below_drew1 (Below.refl _ _))).below HB5.out).below (bal (Below.refl _ _) _)).trans HK6.out)
    all_goals have HXA := Amk (blk_kept (blk_alloc ((HB5.out.block _ (blk_lt (blk_drew HX4.out))).trans (blk_drew HX4.out)) _) HK6.out.kept (HF5.out.far86 ((HB5.out.block _ (blk_lt (blk_drew HX4.out))).trans (blk_drew HX4.out))))
    all_goals have HNA := Amk (R_went (Kd.R_below (Kd.R_below (Kd.R_below HN4.out (below_drew1 (Below.refl _ _))) HB5.out) (bal (Below.refl _ _) _)) (HF5.out.alloc _) HK6.out)
    all_goals go_wp2_with fail
    all_goals go_roundg g
    case rel => exact ⟨j + 1, vW2, vC2, vA2, by go_num, by omega, ⟨by rw [HT.out, ← List.append_assoc]; exact HF6.out⟩, HWA, HXA, HNA⟩
    case measure => omega
end Go.Proofs.YtednegmjjjdinaaGreatDoor.Ext
