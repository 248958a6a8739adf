/- Texts of this claim's author, joined and pruned by a program of his (pack.py): Ro. -/
import Derived.ProofKit
import Derived.SizedLaws
import Derived.Lib.SmallJoins
import Derived.Test.YtednegmjjjdinaaGreatDoorP2
import Derived.Test.YtednegmjjjdinaaGreatDoorP3
import Derived.Test.YtednegmjjjdinaaGreatDoorP4
import Derived.Test.YtednegmjjjdinaaGreatDoorP7
set_option maxRecDepth 100000
namespace Go.Proofs.YtednegmjjjdinaaGreatDoor.Ext
open Go.RowKit Go.ChangeShapes Go.Proofs.YtednegmjjjdinaaGreatDoorW.PrintWords Go.Proofs.YtednegmjjjdinaaGreatDoorW.PrintLast Go.Proofs.YtednegmjjjdinaaGreatDoorW.PrintMore
set_option linter.unusedVariables false
structure Opens {α : Type} (d : Kd α) (t : TypeId) (B : α → Prop) : Prop where
 cells : Tryz.prog.cellsOf t = d.sz
 op : ∀ {H : Type} {enc : TypeId × Value → H} {w : World} {base : Nat} {sp : Nat → Bool} {held : Bool} {fuel : Nat} {cs : List Value} {x : DataW H × List MemPlace}, DataW.trod enc Tryz.prog w base sp held fuel t cs = some x → (∀ n ∈ x.1.weights Tryz.prog t, n ≤ reachBytes) → ∃ a, d.K w a cs ∧ B a
theorem opens_string : Opens Kd.string 9 (fun s => s.size ≤ 140737488355328) := ⟨by kernel_rfl, fun h hw => by
 obtain ⟨s, rfl, rfl, _⟩ := DataW.trod_string Tryz.underlying9 h
 refine ⟨s, rfl, ?_⟩
 have := hw s.data.toList.length (by simp [DataW.weights])
 rw [Array.length_toList] at this
 exact Nat.le_trans this (by decide)⟩
theorem opens_bool : Opens Kd.bool 4 (fun _ => True) := ⟨by kernel_rfl, fun h _ => by
 obtain ⟨b, rfl, _⟩ := DataW.trod_bool Tryz.underlying4 h
 exact ⟨b, rfl, trivial⟩⟩
theorem opens_int {t : TypeId} (ht : Tryz.prog.underlying t = some (.int .i64)) (hc : Tryz.prog.cellsOf t = 1) : Opens (Kd.int .i64) t (fun i => -9223372036854775808 ≤ i ∧ i ≤ 9223372036854775807) := ⟨hc, fun h _ => by
 obtain ⟨i, rfl, _, hw⟩ := DataW.trod_int ht h
 refine ⟨i, rfl, ?_⟩
 simp only [Lit.wf, Bool.and_eq_true, decide_eq_true_eq] at hw
 have e1 : IntKind.i64.min = -9223372036854775808 := by rfl
 have e2 : IntKind.i64.max = 9223372036854775807 := by rfl
 omega⟩
theorem opens_float {t : TypeId} (ht : Tryz.prog.underlying t = some (.float .f64)) (hc : Tryz.prog.cellsOf t = 1) : Opens Kd.float t (fun _ => True) := ⟨hc, fun {H enc w base sp held fuel cs x} h _ => by
 have : ∃ b, cs = [.float .f64 b] := by
  cases fuel with
  | zero => simp [DataW.trod] at h
  | succ n =>
   unfold DataW.trod at h
   rw [ht] at h
   split at h <;> simp_all
 obtain ⟨b, rfl⟩ := this
 exact ⟨b, rfl, trivial⟩⟩
def OpensFs {α : Type} (d : Kd α) (fs : List Field) (o : Nat) (B : α → Prop) : Prop :=
 ∀ {H : Type} {enc : TypeId × Value → H} {w : World} {base : Nat} {sp : Nat → Bool} {held : Bool} {n : Nat} {cs : List Value} {xs : List (DataW H × List MemPlace)}, xs.length = fs.length →
  (∀ (i : Nat) (f : Field), fs[i]? = some f → DataW.trod enc Tryz.prog w base sp held n f.type ((cs.drop f.offset).take (Tryz.prog.cellsOf f.type)) = xs[i]?) →
  (∀ m ∈ DataW.weightsEach Tryz.prog (fs.map (·.type)) (xs.map (·.1)), m ≤ reachBytes) → cs.length = o + d.sz → ∃ a, d.K w a (cs.drop o) ∧ B a
theorem opensFs_one {α : Type} {d : Kd α} {f : Field} {o : Nat} {B : α → Prop} (ho : f.offset = o) (h : Opens d f.type B) : OpensFs d [f] o B := by
 intro H enc w base sp held n cs xs hl hx hw hc
 match xs, hl with
 | [y], _ =>
  have h0 := hx 0 f rfl
  rw [ho, h.cells, List.take_of_length_le (by rw [List.length_drop]; omega)] at h0
  exact h.op h0 (fun m hm => hw m (by simpa [DataW.weightsEach] using hm))
theorem opensFs_cons {α β : Type} {d : Kd α} {d1 : Kd β} {f : Field} {fs : List Field} {o : Nat} {B : α → Prop} {B1 : β → Prop} (ho : f.offset = o) (h : Opens d f.type B) (hr : OpensFs d1 fs (o + d.sz) B1) : OpensFs (Kd.pair d d1) (f :: fs) o (fun p => B p.1 ∧ B1 p.2) := by
 intro H enc w base sp held n cs xs hl hx hw hc
 match xs, hl with
 | y :: ys, hl =>
  have h0 := hx 0 f rfl
  rw [ho, h.cells] at h0
  have hs : (Kd.pair d d1).sz = d.sz + d1.sz := rfl
  obtain ⟨a, ha, hB⟩ := h.op h0 (fun m hm => hw m (by simp only [List.map_cons, DataW.weightsEach, List.mem_append]; exact .inl hm))
  obtain ⟨b, hb, hB1⟩ := hr (xs := ys) (by simpa using hl) (fun i g hg => hx (i + 1) g hg) (fun m hm => hw m (by simp only [List.map_cons, DataW.weightsEach, List.mem_append]; exact .inr hm)) (by omega)
  exact ⟨(a, b), ⟨_, _, by rw [← List.drop_drop, List.take_append_drop], ha, hb⟩, hB, hB1⟩
theorem opens_struct {α β : Type} {d : Kd α} {t : TypeId} {fs : Array Field} {B : α → Prop} (f : β → α) (g : α → β) (hfg : ∀ a, f (g a) = a) (ht : Tryz.prog.underlying t = some (.struct fs)) (hc : Tryz.prog.cellsOf t = d.sz) (h : OpensFs d fs.toList 0 B) : Opens (Kd.iso d f) t (fun b => B (f b)) := ⟨hc, fun hx hw => by
 obtain ⟨xs, n, _, rfl, hl, hlen, hf⟩ := DataW.trod_struct ht hx
 obtain ⟨a, ha, hB⟩ := h (xs := xs) (by rw [hlen, Array.length_toList]) (fun i f hi => hf i f (by rw [← hi, Array.getElem?_toList])) (fun m hm => hw m (by simp only [DataW.weights, ht]; exact hm)) (by omega)
 exact ⟨g a, by show d.K _ (f (g a)) _; rw [hfg]; exact ha, by rw [hfg]; exact hB⟩⟩
theorem weightsAll_mem {H : Type} {P : Program} {e : TypeId} : ∀ {l : List (DataW H)} {d : DataW H}, d ∈ l → ∀ n ∈ d.weights P e, n ∈ DataW.weightsAll P e l
 | x :: l, d, h, n, hn => by
  simp only [DataW.weightsAll, List.mem_append]
  rcases List.mem_cons.1 h with rfl | h
  ·
   exact .inl hn
  ·
   exact .inr (weightsAll_mem h n hn)
theorem opens_slice {α : Type} {d : Kd α} {t e : TypeId} {B : α → Prop} (ht : Tryz.prog.underlying t = some (.slice e)) (hc : Tryz.prog.cellsOf t = 1) (hb : 0 < Tryz.prog.bytesOf e) (h : Opens d e B) : Opens (Kd.slice e d) t (fun xs => xs.length ≤ 140737488355328 ∧ ∀ x ∈ xs, B x) := ⟨hc, fun {H enc w base sp held fuel cs x} hx hw => by
 rcases DataW.trod_slice ht hx with ⟨rfl, _⟩ | ⟨a, len, cap, elems, rest, n, _, rfl, rfl, hba, hl, hm, hlen, hel, _, _⟩
 ·
  exact ⟨[], ⟨none, 0, rfl, Nat.le_refl _, rfl, by simp, fun h => by simp at h⟩, by simp, by simp⟩
 ·
  have hz : len ≤ 140737488355328 := by
   have h1 := hw (((elems.map (·.1)).length + (rest.map (·.1)).length) * Tryz.prog.bytesOf e) (by simp [DataW.weights, ht])
   rw [List.length_map, List.length_map, hlen] at h1
   have h2 : len ≤ (len + rest.length) * Tryz.prog.bytesOf e := Nat.le_trans (Nat.le_add_right _ _) (Nat.le_mul_of_pos_right _ hb)
   exact Nat.le_trans h2 (Nat.le_trans h1 (by decide))
  have key : ∀ i : Fin len, ∃ p : α × List Value, p.2.length = d.sz ∧ d.K w p.1 p.2 ∧ B p.1 ∧ ∀ j u, p.2[j]? = some u → w.cell? (a.add (i.1 * d.sz + j)) = some u := by
   intro i
   have hi := hel i.1 i.2
   rw [List.getElem?_eq_getElem (by omega), h.cells] at hi
   obtain ⟨c, h1, h2⟩ := Option.bind_eq_some_iff.1 hi
   obtain ⟨_, hcl, hcc⟩ := World.cells?_some h1
   obtain ⟨v, hv, hB⟩ := h.op h2 (fun m hm => hw m (by
    simp only [DataW.weights, ht, List.mem_cons, List.mem_append]
    exact .inr (.inl (weightsAll_mem (List.mem_map_of_mem (List.getElem_mem _)) m hm))))
   refine ⟨(v, c), hcl, hv, hB, fun j u hu => ?_⟩
   have hj : j < c.length := by
    rcases Nat.lt_or_ge j c.length with hj | hj
    ·
     exact hj
    ·
     rw [List.getElem?_eq_none hj] at hu; cases hu
   have := hcc j (by omega)
   rw [add_add] at this
   exact this.trans hu
  obtain ⟨F, hF⟩ := Classical.axiomOfChoice key
  have hget : ∀ j p, (List.ofFn fun i => (F i).1)[j]? = some p → ∃ hj : j < len, p = (F ⟨j, hj⟩).1 := by
   intro j p hj
   rw [List.getElem?_ofFn] at hj
   split at hj
   ·
    rename_i hlt; exact ⟨hlt, (Option.some.inj hj).symm⟩
   ·
    cases hj
  refine ⟨List.ofFn fun i => (F i).1, ⟨some a, cap, by simp, by simpa using hl, by simp, by simp; exact Nat.le_trans hl (Nat.le_trans hm (by decide)), fun _ => ⟨a, rfl, fun j p hj => ?_⟩⟩, by simpa using hz, fun x hx => ?_⟩
  ·
   obtain ⟨hlt, rfl⟩ := hget j p hj
   exact ⟨(F ⟨j, hlt⟩).2, (hF ⟨j, hlt⟩).1, (hF ⟨j, hlt⟩).2.1, (hF ⟨j, hlt⟩).2.2.2⟩
  ·
   obtain ⟨i, rfl⟩ := List.mem_ofFn.1 hx
   exact (hF i).2.2.1⟩
theorem Opens.weaken {α : Type} {d : Kd α} {t : TypeId} {B B' : α → Prop} (h : Opens d t B) (hb : ∀ x, B x → B' x) : Opens d t B' := ⟨h.cells, fun hx hw => by
 obtain ⟨a, ha, hB⟩ := h.op hx hw
 exact ⟨a, ha, hb a hB⟩⟩
theorem opens37 : Opens (Kd.slice 9 Kd.string) 37 (fun xs => xs.length ≤ 140737488355328 ∧ ∀ x ∈ xs, x.size ≤ 140737488355328) := opens_slice Tryz.underlying37 (by kernel_rfl) (of_decide_eq_true (by kernel_rfl)) opens_string
theorem opens38 : Opens (Kd.slice 24 (Kd.int .i64)) 38 (fun xs => xs.length ≤ 140737488355328 ∧ ∀ x ∈ xs, -9223372036854775808 ≤ x ∧ x ≤ 9223372036854775807) := opens_slice Tryz.underlying38 (by kernel_rfl) (of_decide_eq_true (by kernel_rfl)) (opens_int Tryz.underlying24 (by kernel_rfl))
theorem opens3 : Opens (Kd.int .i64) 3 (fun i => -9223372036854775808 ≤ i ∧ i ≤ 9223372036854775807) := opens_int Tryz.underlying3 (by kernel_rfl)
theorem opens179 : Opens K.k179 179 (fun _ => True) := Opens.weaken (opens_struct (fun x : K.S179 => (x.f0, x.f1, x.f2, x.f3)) (fun p => ⟨p.1, p.2.1, p.2.2.1, p.2.2.2⟩) (fun _ => rfl) Tryz.underlying179 (by kernel_rfl)
 (opensFs_cons (o := 0) rfl opens3 (opensFs_cons rfl opens3 (opensFs_cons rfl opens_string (opensFs_one rfl (opens_float Tryz.underlying177 (by kernel_rfl))))))) (fun _ _ => trivial)
theorem opens181 : Opens K.k181 181 (fun x => x.f0.size ≤ 140737488355328) := Opens.weaken (opens_struct (fun x : K.S181 => (x.f0, x.f1)) (fun p => ⟨p.1, p.2⟩) (fun _ => rfl) Tryz.underlying181 (by kernel_rfl) (opensFs_cons (o := 0) rfl opens_string (opensFs_one rfl opens179))) (fun _ h => h.1)
theorem opens62 : Opens K.k62 62 (fun x => x.f2.length ≤ 140737488355328 ∧ ∀ y ∈ x.f2, y.f0.size ≤ 140737488355328) := Opens.weaken (opens_struct (fun x : K.S62 => (x.f0, x.f1, x.f2, x.f3, x.f4)) (fun p => ⟨p.1, p.2.1, p.2.2.1, p.2.2.2.1, p.2.2.2.2⟩) (fun _ => rfl) Tryz.underlying62 (by kernel_rfl)
 (opensFs_cons (o := 0) rfl opens_string (opensFs_cons rfl opens_string (opensFs_cons rfl (opens_slice Tryz.underlying60 (by kernel_rfl) (of_decide_eq_true (by kernel_rfl)) opens181) (opensFs_cons rfl opens_bool (opensFs_one rfl opens3)))))) (fun _ h => h.2.2.1)
theorem opens66 : Opens K.k66 66 (fun o => o.f6.f2.length ≤ 140737488355328 ∧ ∀ x ∈ o.f6.f2, x.f0.size ≤ 140737488355328) := Opens.weaken (opens_struct (fun x : K.S66 => (x.f0, x.f1, x.f2, x.f3, x.f4, x.f5, x.f6)) (fun p => ⟨p.1, p.2.1, p.2.2.1, p.2.2.2.1, p.2.2.2.2.1, p.2.2.2.2.2.1, p.2.2.2.2.2.2⟩) (fun _ => rfl) Tryz.underlying66 (by kernel_rfl)
 (opensFs_cons (o := 0) rfl opens3 (opensFs_cons rfl opens3 (opensFs_cons rfl opens3 (opensFs_cons rfl opens_string (opensFs_cons rfl opens_bool (opensFs_cons rfl opens_bool (opensFs_one rfl opens62)))))))) (fun _ h => h.2.2.2.2.2.2)
theorem opens39 : Opens (Kd.slice 66 K.k66) 39 (fun xs => xs.length ≤ 140737488355328 ∧ ∀ o ∈ xs, o.f6.f2.length ≤ 140737488355328 ∧ ∀ x ∈ o.f6.f2, x.f0.size ≤ 140737488355328) := opens_slice Tryz.underlying39 (by kernel_rfl) (of_decide_eq_true (by kernel_rfl)) opens66
structure Script (W : World) (v : Value) (chunks : List ByteArray) (answers : List Int) (outs : List K.S66) (AH AA AO : Option Addr) (cH cA cO : Nat) : Prop where
 is : v = .agg #[.slice AH chunks.length cH, .slice AA answers.length cA, .slice AO outs.length cO]
 c0 : Kd.string.C W AH chunks.length chunks
 c1 : (Kd.int .i64).C W AA answers.length answers
 c2 : K.k66.C W AO outs.length outs
 nH : chunks.length ≤ 140737488355328
 nA : answers.length ≤ 140737488355328
 nO : outs.length ≤ 140737488355328
 cs : ∀ c ∈ chunks, c.size ≤ 140737488355328
 os : ∀ o ∈ outs, o.f6.f2.length ≤ 140737488355328 ∧ ∀ x ∈ o.f6.f2, x.f0.size ≤ 140737488355328
theorem open_script {H : Type} {enc : TypeId × Value → H} {W : World} {r : Reach} {b0 base : Nat} {sp : Nat → Bool} {held : Bool} {v : Value} {d : DataW H} {p : List MemPlace} (hv : Value.okWide Tryz.prog W r b0 41 v) (h : DataW.Trod enc Tryz.prog W base sp held 41 v d p) (hw : ∀ n ∈ d.weights Tryz.prog 41, n ≤ reachBytes) : ∃ chunks answers outs AH AA AO cH cA cO, Script W v chunks answers outs AH AA AO cH cA cO := by
 obtain ⟨v0, v1, v2, y0, y1, y2, n, rfl, rfl, rfl, h0, h1, h2⟩ := Go.Joins.open_agg3 Tryz.underlying41 (by kernel_rfl) (by kernel_rfl) hv h
 obtain ⟨chunks, ⟨AH, cH, e0, _, k0⟩, b0, b0'⟩ := opens37.op h0 (fun m hm => hw m (by simp only [DataW.weights, Tryz.underlying41, List.map_cons, DataW.weightsEach, List.mem_append]; exact .inl hm))
 obtain ⟨answers, ⟨AA, cA, e1, _, k1⟩, b1, _⟩ := opens38.op h1 (fun m hm => hw m (by simp only [DataW.weights, Tryz.underlying41, List.map_cons, DataW.weightsEach, List.mem_append]; exact .inr (.inl hm)))
 obtain ⟨outs, ⟨AO, cO, e2, _, k2⟩, b2, b2'⟩ := opens39.op h2 (fun m hm => hw m (by simp only [DataW.weights, Tryz.underlying41, List.map_cons, DataW.weightsEach, List.mem_append]; exact .inr (.inr (.inl hm))))
 injection e0 with e0
 injection e1 with e1
 injection e2 with e2
 subst e0 e1 e2
 exact ⟨chunks, answers, outs, AH, AA, AO, cH, cA, cO, rfl, k0, k1, k2, b0, b1, b2, b0', b2'⟩
end Go.Proofs.YtednegmjjjdinaaGreatDoor.Ext
