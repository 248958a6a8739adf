/- Texts of this claim's author, joined and pruned by a program of his (pack.py): Zg, Ug. -/
import Derived.Test.YtednegmjjjdinaaGreatDoorP0
import Derived.Test.YtednegmjjjdinaaGreatDoorP1
import Derived.Test.YtednegmjjjdinaaGreatDoorP2
import Derived.Test.YtednegmjjjdinaaGreatDoorP3
import Derived.Test.YtednegmjjjdinaaGreatDoorP4
import Derived.Test.YtednegmjjjdinaaGreatDoorP5
import Derived.Test.YtednegmjjjdinaaGreatDoorP7
import Derived.Test.YtednegmjjjdinaaGreatDoorP10
import Derived.Test.YtednegmjjjdinaaGreatDoorP11
import Derived.Test.YtednegmjjjdinaaGreatDoorP12
set_option maxRecDepth 100000
set_option maxHeartbeats 4000000
open List renaming getElem_toArray → Lga, getElem_cons_zero → Lgz, getElem_cons_succ → Lgs, setIfInBounds_toArray → Lsa, set_cons_zero → Lsz, set_cons_succ → Lss
open Go.Proofs.YtednegmjjjdinaaGreatDoorW.PrintWords.Aside0 renaming mk → Amk
namespace Go.Proofs.YtednegmjjjdinaaGreatDoor.Ext
open Go.RowKit Go.Proofs.YtednegmjjjdinaaGreatDoorW.PrintWords Go.Proofs.YtednegmjjjdinaaGreatDoorW.PrintLast Go.Proofs.YtednegmjjjdinaaGreatDoorW.PrintMore
set_option linter.unusedVariables false
set_option linter.unusedSimpArgs false
def badI (k x : Int) : Bool := decide (2 < x) && ((k != 9) || (x != 128))
theorem bad1 (k x : Int) (b h : Nat) (w : World) (cb : w.cell? ⟨b, 0, none⟩ = some (.pointer (some ⟨h, 0, none⟩))) (c0 : w.cell? ⟨h, 0, none⟩ = some (.int .i64 k)) :
  Calls Tryz.prog 168 #[.int .i64 x, .pointer (some ⟨b, 0, none⟩)] w fun e w' => e = .returned (.bool (badI k x)) ∧ w' = w := by
 unfold badI
 by_cases h2 : 2 < x
 ·
  have d1 : decide (2 < x) = true := decide_eq_true h2
  rw [d1]
  by_cases h9 : k = 9
  ·
   have d2 : (k != 9) = false := by rw [h9]; rfl
   rw [d2]
   subst h9
   clear h2 d2
   go_enter Tryz.func168, Tryz.ntmps168
   go_wp2
   go_ret
   exact ⟨rfl, rfl⟩
  ·
   have d2 : (k != 9) = true := by simpa using h9
   rw [d2]
   clear h2 h9
   go_enter Tryz.func168, Tryz.ntmps168
   go_wp2
   go_ret
   exact ⟨rfl, rfl⟩
 ·
  have d1 : decide (2 < x) = false := decide_eq_false h2
  rw [d1]
  clear h2
  go_enter Tryz.func168, Tryz.ntmps168
  go_wp2
  go_ret
  exact ⟨rfl, rfl⟩
theorem rd_at (xs : List Int) (j : Nat) (hj : j < xs.length) : rd xs (j : Int) = xs[j] := by simp [rd, hj]
theorem take_int {xs : List Int} {j : Nat} (hj : j < xs.length) {P : Int → Prop} (h : ∀ s ∈ xs.take j, P s) (hp : P (rd xs (j : Int))) : ∀ s ∈ xs.take (j + 1), P s := by
 intro s hs
 rw [List.take_succ_eq_append_getElem hj, List.mem_append] at hs
 rcases hs with hs | hs
 ·
  exact h s hs
 ·
  rw [List.mem_singleton.1 hs, ← rd_at xs j hj]; exact hp
def IdxP (k : Int) (xs : List Int) (w : World) (e : Ending) (w' : World) : Prop :=
 ∃ i : Int, e = .returned (.int .i64 i) ∧ Aside0 (0 ≤ i ↔ ∃ s ∈ xs, badI k s = true) ∧ w' = w
theorem indexI (k : Int) (b h : Nat) (xs : List Int) (A : Option Addr) (c : Nat) (w : World) (cb : w.cell? ⟨b, 0, none⟩ = some (.pointer (some ⟨h, 0, none⟩))) (c0 : w.cell? ⟨h, 0, none⟩ = some (.int .i64 k)) (hr : Kd.C (Kd.int .i64) w A xs.length xs) (hlen : xs.length ≤ 4611686018427387904) :
  Calls Tryz.prog 233 #[.slice A xs.length c, .func (.func 168) #[] #[.pointer (some ⟨b, 0, none⟩)]] w (IdxP k xs w) := by
 have HR := Amk hr
 have HC : Aside0 (∀ x, Calls Tryz.prog 168 #[.int .i64 x, .pointer (some ⟨b, 0, none⟩)] w fun e w' => e = .returned (.bool (badI k x)) ∧ w' = w) := ⟨fun x => bad1 k x b h w cb c0⟩
 clear hr cb c0
 go_enter Tryz.func233, Tryz.ntmps233
 go_wp2
 go_loopg [8] xs.length (fun kq v8 w' => ∃ j : Nat, v8 = .int .i64 j ∧ j + kq = xs.length ∧ Aside0 (∀ s ∈ xs.take j, badI k s = false) ∧ w' = w)
 case atStart => exact ⟨0, rfl, by omega, ⟨by simp⟩, rfl⟩
 case round =>
  obtain ⟨j, rfl, hj, HN, rfl⟩ := hrel
  cases gk with
  | zero =>
   have hge : decide ((j : Int) < (xs.length : Int)) = false := decide_eq_false (by omega)
   go_wp2
   go_ret
   exact ⟨-1, rfl, ⟨⟨fun h => absurd h (by decide), fun ⟨s, hs, h⟩ => by
    have := HN.out s (by rw [List.take_of_length_le (by omega)]; exact hs)
    rw [this] at h; cases h⟩⟩, rfl⟩
  | succ g =>
   have hlt : decide ((j : Int) < (xs.length : Int)) = true := decide_eq_true (by omega)
   obtain ⟨ad, rfl, hcell⟩ := Kd.at_int HR.out (j : Int) (by omega) (by omega)
   simp only [Int.toNat_natCast] at hcell
   have HC2 := Amk (HC.out (rd xs j))
   by_cases hb : badI k (rd xs j) = true
   ·
    have HB1 := Amk hb
    rw [hb] at HC2
    clear hb
    go_wp2_with (go_at_call 168; refine HC2.out.mono ?_; rintro e w2 ⟨rfl, rfl⟩)
    go_ret
    exact ⟨j, rfl, ⟨⟨fun _ => ⟨_, by rw [rd_at xs j (by omega)]; exact List.getElem_mem _, HB1.out⟩, fun _ => by omega⟩⟩, rfl⟩
   ·
    have HB1 := Amk (Bool.eq_false_iff.2 hb)
    rw [HB1.out] at HC2
    clear hb
    go_wp2_with (go_at_call 168; refine HC2.out.mono ?_; rintro e w2 ⟨rfl, rfl⟩)
    go_roundg g
    case rel => exact ⟨j + 1, by go_num, by omega, ⟨take_int (by omega) HN.out HB1.out⟩, rfl⟩
    case measure => omega
theorem containsI (k : Int) (b h : Nat) (xs : List Int) (A : Option Addr) (c : Nat) (w : World) (cb : w.cell? ⟨b, 0, none⟩ = some (.pointer (some ⟨h, 0, none⟩))) (c0 : w.cell? ⟨h, 0, none⟩ = some (.int .i64 k)) (hr : Kd.C (Kd.int .i64) w A xs.length xs) (hlen : xs.length ≤ 4611686018427387904) :
  Calls Tryz.prog 167 #[.slice A xs.length c, .func (.func 168) #[] #[.pointer (some ⟨b, 0, none⟩)]] w fun e w' => e = .returned (.bool (xs.any (badI k))) ∧ w' = w := by
 have HC := Amk (indexI k b h xs A c w cb c0 hr hlen)
 clear hr cb c0
 go_enter Tryz.func167, Tryz.ntmps167
 go_wp2_with (go_at_call 233; refine HC.out.mono ?_; rintro e w2 ⟨i, rfl, HI, rfl⟩)
 go_ret
 refine ⟨?_, rfl⟩
 have : decide (0 ≤ i) = xs.any (badI k) := by
  rw [Bool.eq_iff_iff, decide_eq_true_iff, HI.out]
  simp
 rw [← this]
 rfl
structure Sub (w0 w : World) (g h b : Nat) (p : Pk) (l : List UInt8) (wx : World) (ns : List ByteArray) (cs : List Int) : Prop where
 st : St w0 w g h b p l wx
 nm : Kd.string.R 9 wx w.heap.size (fun _ => True) p.names ns
 cd : (Kd.int .i64).R 3 wx w.heap.size (fun _ => True) p.codes cs
 sz : w0.heap.size ≤ w.heap.size
namespace Sub
variable {w0 w wx : World} {g h b : Nat} {p : Pk} {l : List UInt8} {ns : List ByteArray} {cs : List Int}
theorem drew (s : Sub w0 w g h b p l wx ns cs) : Sub w0 w g h b p l wx.drew ns cs := ⟨s.st.drew, Kd.R_move s.nm (fun _ _ => rfl), Kd.R_move s.cd (fun _ _ => rfl), s.sz⟩
theorem read {w2 : World} {l2 : List UInt8} (s : Sub w0 w g h b p l wx ns cs) (hr : RdAt w0 w2 g l2) (hb2 : Below w0.heap.size w0 w2) (hk : KeepBut wx w2 g none) : Sub w0 w g h b p l2 w2 ns cs :=
 ⟨s.st.read hr hb2 hk, Kd.R_mono (Kd.R_keep (Kd.R_types s.nm s.st.rd.1 (by decide)) hk (fun _ h => h.2)) (fun _ h => h.1), Kd.R_mono (Kd.R_keep (Kd.R_types s.cd s.st.rd.1 (by decide)) hk (fun _ h => h.2)) (fun _ h => h.1), s.sz⟩
theorem set (s : Sub w0 w g h b p l wx ns cs) {q : Pk} (j : Nat) (v : Value) (hq : p.cells.setIfInBounds j v = q.cells) (h1 : q.names = p.names) (h2 : q.codes = p.codes) : Sub w0 w g h b q l (wx.setCell ⟨h, j, none⟩ v) ns cs :=
 ⟨s.st.set j v hq, by rw [h1]; exact Kd.R_set s.nm s.st.pk.1 (by decide) j v, by rw [h2]; exact Kd.R_set s.cd s.st.pk.1 (by decide) j v, s.sz⟩
theorem grown {w1 : World} (s : Sub w0 w g h b p l wx ns cs) {v : Value} (hB : Below w.heap.size wx w1) (hg : wx.grownBy w1 v.ownBlock) (h1 : some g ≠ v.ownBlock) (h2 : some h ≠ v.ownBlock) (h3 : some b ≠ v.ownBlock) : St w0 w g h b p l w1 :=
 ⟨⟨blk_grown s.st.rd.1 hg h1, s.st.rd.2⟩, ⟨blk_grown s.st.pk.1 hg h2, s.st.pk.2⟩, blk_grown s.st.bx hg h3, below_weaken s.st.bel s.sz hB, ⟨Nat.le_trans s.st.kept.1 hB.size, fun i hi hn => (hB.block i hi).trans (s.st.kept.2 i hi hn)⟩, s.st.gh, s.st.hb, s.st.gb, s.st.wb⟩
theorem pushN {w1 : World} {v1 : Value} {t : ByteArray} (s : Sub w0 w g h b p l wx ns cs) (hR : Kd.string.R 9 w1 w.heap.size (fun _ => True) v1 (ns ++ [t])) (hB : Below w.heap.size wx w1) (hg : wx.grownBy w1 p.names.ownBlock) : Sub w0 w g h b { p with names := v1 } l (w1.setCell ⟨h, 10, none⟩ v1) (ns ++ [t]) cs := by
 have hs := s.grown (v := p.names) hB hg (Kd.R_ne s.nm s.st.rd.1 (by decide)) (Kd.R_ne s.nm s.st.pk.1 (by decide)) (Kd.R_ne s.nm s.st.bx (by decide))
 refine ⟨hs.set 10 v1 rfl, Kd.R_set hR hs.pk.1 (by decide) 10 v1, ?_, s.sz⟩
 refine Kd.R_set (Kd.R_mono (Kd.R_grown (Kd.R_bound s.cd) hg (fun k hk he => ?_)) (fun _ h => h.1)) hs.pk.1 (by decide) 10 v1
 obtain ⟨_, _, _, q, hq, cells, hc⟩ := hk
 obtain ⟨inner, ho⟩ := Kd.R_own s.nm
 obtain ⟨cells2, hc2⟩ := own_typed ho k he.symm
 rw [hc] at hc2
 injection hc2 with hc2
 injection hc2 with _ hc2
 rw [List.mem_singleton.1 hq] at hc2
 exact absurd hc2 (by decide)
theorem pushC {w1 : World} {v1 : Value} {t : Int} (s : Sub w0 w g h b p l wx ns cs) (hR : (Kd.int .i64).R 3 w1 w.heap.size (fun _ => True) v1 (cs ++ [t])) (hB : Below w.heap.size wx w1) (hg : wx.grownBy w1 p.codes.ownBlock) : Sub w0 w g h b { p with codes := v1 } l (w1.setCell ⟨h, 11, none⟩ v1) ns (cs ++ [t]) := by
 have hs := s.grown (v := p.codes) hB hg (Kd.R_ne s.cd s.st.rd.1 (by decide)) (Kd.R_ne s.cd s.st.pk.1 (by decide)) (Kd.R_ne s.cd s.st.bx (by decide))
 refine ⟨hs.set 11 v1 rfl, ?_, Kd.R_set hR hs.pk.1 (by decide) 11 v1, s.sz⟩
 refine Kd.R_set (Kd.R_mono (Kd.R_grown (Kd.R_bound s.nm) hg (fun k hk he => ?_)) (fun _ h => h.1)) hs.pk.1 (by decide) 11 v1
 obtain ⟨_, _, _, q, hq, cells, hc⟩ := hk
 obtain ⟨inner, ho⟩ := Kd.R_own s.cd
 obtain ⟨cells2, hc2⟩ := own_typed ho k he.symm
 rw [hc] at hc2
 injection hc2 with hc2
 injection hc2 with _ hc2
 rw [List.mem_singleton.1 hq] at hc2
 exact absurd hc2 (by decide)
end Sub
def subN (b : Bool) (ns : List ByteArray) (l : List UInt8) : Option (List ByteArray × List UInt8) := if b = true then (textF l).map fun (t, l) => (ns ++ [⟨t.toArray⟩], l) else some (ns, l)
def subC (b : Bool) (cs : List Int) (l : List UInt8) : Option (List Int × List UInt8) := if b = true then (byteF l).map fun (c, l) => (cs ++ [(c : Int)], l) else some (cs, l)
def subLoop (bn bc : Bool) : Nat → List ByteArray → List Int → List UInt8 → Option (List ByteArray × List Int)
 | 0, _, _, _ => none
 | f + 1, ns, cs, l => if l = [] then some (ns, cs) else (subN bn ns l).bind fun (ns, l) => (subC bc cs l).bind fun (cs, l) => if ns.length ≤ 32 ∧ cs.length ≤ 32 then subLoop bn bc f ns cs l else none
def subF (bn bc : Bool) (k : Int) (l : List UInt8) : Option (Nat × List ByteArray × List Int) :=
 (idF l).bind fun (n, l) => if l = [] then none else (subLoop bn bc (l.length + 1) [] [] l).bind fun (ns, cs) => if cs.any (badI k) = true then none else some (n, ns, cs)
theorem byteF_len {l l2 : List UInt8} {n : Nat} (h : byteF l = some (n, l2)) : l.length = l2.length + 1 := by
 cases l with
 | nil => cases h
 | cons b l => simp only [byteF, Option.some.injEq, Prod.mk.injEq] at h; rw [← h.2]; rfl
theorem shortF_len {l l2 : List UInt8} {n : Nat} (h : shortF l = some (n, l2)) : l.length = l2.length + 2 := by
 unfold shortF at h
 cases h1 : byteF l with
 | none => rw [h1] at h; cases h
 | some x =>
  obtain ⟨a, l3⟩ := x
  simp only [h1, Option.bind_some] at h
  cases h2 : byteF l3 with
  | none => rw [h2] at h; cases h
  | some y =>
   obtain ⟨b, l4⟩ := y
   simp only [h2, Option.bind_some, Option.some.injEq, Prod.mk.injEq] at h
   have := byteF_len h1
   have := byteF_len h2
   rw [← h.2]; omega
theorem textF_len {l l2 : List UInt8} {t : List UInt8} (h : textF l = some (t, l2)) : l2.length + 2 ≤ l.length := by
 unfold textF at h
 cases h1 : shortF l with
 | none => rw [h1] at h; cases h
 | some x =>
  obtain ⟨a, l3⟩ := x
  simp only [h1, Option.bind_some] at h
  have := shortF_len h1
  split at h
  ·
   simp only [Option.some.injEq, Prod.mk.injEq] at h
   rw [← h.2, List.length_drop]; omega
  ·
   cases h
def SPost (w0 w : World) (g h : Nat) (p : Pk) (o : Option (Nat × List ByteArray × List Int)) (e : Ending) (w' : World) : Prop :=
 match o with
 | some (n, ns, cs) => ∃ vN vC, e = .returned (.tuple #[]) ∧ Sub w0 w g h w.heap.size { p with id := n, names := vN, codes := vC } [] w' ns cs
 | none => e = .panicked (Stop 140) ∧ Below w0.heap.size w0 w' ∧ Kept w w' (GH g h) ∧ ∃ q, PkAt w0 w' h q
theorem SPost.no {w0 w w' : World} {g h : Nat} {p : Pk} {o : Option (Nat × List ByteArray × List Int)} {P : Prop} {e : Ending} (ho : o = none) (hp : P ∧ e = .panicked (Stop 140) ∧ Below w0.heap.size w0 w' ∧ Kept w w' (GH g h) ∧ ∃ q, PkAt w0 w' h q) : P ∧ SPost w0 w g h p o e w' := by
 subst ho; exact hp
theorem Sub.no {w0 w wx : World} {g h b : Nat} {p q : Pk} {l : List UInt8} {ns : List ByteArray} {cs : List Int} {o : Option (Nat × List ByteArray × List Int)} {P : Prop} (s : Sub w0 w g h b q l wx ns cs) (hp : P) (ho : o = none) : P ∧ SPost w0 w g h p o (.panicked (Stop 140)) wx :=
 SPost.no ho ⟨hp, rfl, s.st.bel, s.st.kept, _, s.st.pk⟩
theorem Sub.yes {w0 w wx : World} {g h : Nat} {p : Pk} {n : Nat} {vN vC : Value} {ns : List ByteArray} {cs : List Int} {o : Option (Nat × List ByteArray × List Int)} (s : Sub w0 w g h w.heap.size { p with id := n, names := vN, codes := vC } [] wx ns cs) (ho : o = some (n, ns, cs)) : SPost w0 w g h p o (.returned (.tuple #[])) wx := by
 subst ho; exact ⟨vN, vC, rfl, s⟩
theorem Sub.mk0 {w0 w wx : World} {g h : Nat} {p : Pk} {l : List UInt8} (s : St w0 w g h w.heap.size p l wx) (hn : p.names = .slice none 0 0) (hc : p.codes = .slice none 0 0) (hsz : w0.heap.size ≤ w.heap.size) : Sub w0 w g h w.heap.size p l wx [] [] :=
 ⟨s, by rw [hn]; exact Kd.R_nil _ _ _ _ _, by rw [hc]; exact Kd.R_nil _ _ _ _ _, hsz⟩
theorem info3 : (Tryz.prog.info? 3).map (fun i => (i.zero, i.size, i.bytes)) = some (some (.int .i64 0), 1, 8) := by kernel_rfl
theorem body_sub8 (g h : Nat) (l : List UInt8) (p : Pk) (w0 w : World) (hI : RdAt w0 w g l) (hP : PkAt w0 w h p) (hne : g ≠ h) (hB : Below w0.heap.size w0 w) (hsz : w0.heap.size ≤ w.heap.size) (hnm : p.names = .slice none 0 0) (hcd : p.codes = .slice none 0 0) (hk : p.kind = 8) :
  Calls Tryz.prog 99 #[.pointer (some ⟨g, 0, none⟩), .pointer (some ⟨h, 0, none⟩)] w (SPost w0 w g h p (subF true true 8 l)) := by
 have HS := Amk (St.new hI hP hne hB)
 clear hI hB hP hne
 obtain ⟨o, ho⟩ : ∃ o, o = subF true true 8 l := ⟨_, rfl⟩
 have HO := Amk ho
 rw [← ho]
 clear ho
 have cb := HS.out.box
 have c0 : (w.alloc (.cells #[.pointer (some ⟨h, 0, none⟩)] 148)).cell? ⟨h, 0, none⟩ = some (.int .i64 8) := (HS.out.cell 0).trans (by rw [← hk]; rfl)
 have HSZ := Amk hsz
 have HNM := Amk (And.intro hnm hcd)
 have HPK := Amk hk
 clear hsz hnm hcd hk
 cases hx : idF l with
 | none =>
  have HO2 : Aside0 (o = none) := ⟨by rw [HO.out]; simp [subF, hx]⟩
  have HT : Aside0 (∀ W, RdAt w0 W g l → Below w0.heap.size w0 W → Calls Tryz.prog 165 #[.pointer (some ⟨g, 0, none⟩)] W (RPost w0 W g none)) := ⟨fun W h1 h2 => by have := id_calls g l w0 W h1 h2; rw [hx] at this; exact this⟩
  go_enter Tryz.func99, Tryz.ntmps99
  go_upto_region 22 with (fail)
  refine wp_region_held_drew (S := (fun w' => w'.cell? ⟨w.heap.size, 0, none⟩ = some (.pointer (some ⟨h, 0, none⟩)))) (by kernel_rfl) HS.out.drew.box (fun hHeld => ?_)
  refine wpAnyH_take (i := 0) (v := ?_) rfl (by kernel_rfl) (by kernel_rfl) (by kernel_rfl) (fun _ _ _ h => h) (Or.inl ⟨by rfl, ?_⟩) hHeld ?_; rotate_left; focus (intro w_ hSw; (try dsimp only at hSw); go_simp; (try with_reducible rfl)); rotate_left; try simp only [Act.put, Lsa, Lsz, Lss]
  refine wpAnyH_take (i := 1) (v := ?_) rfl (by kernel_rfl) (by kernel_rfl) (by kernel_rfl) (fun _ _ _ h => h) (Or.inl ⟨by rfl, ?_⟩) hHeld ?_; rotate_left; focus (intro w_ hSw; (try dsimp only at hSw); go_simp; (try with_reducible rfl)); rotate_left; try simp only [Act.put, Lsa, Lsz, Lss]
  refine wpAnyH_ready (rs := [2]) (by kernel_rfl) (by simp) ?_
  refine AllReadyH.cons rfl (fun K hK => ?_) AllReadyH.nil
  go_simp
  go_wp2_with (go_at_call 165; refine (HT.out _ HS.out.drew.rd HS.out.drew.bel).mono ?_; rintro e wq hp; obtain ⟨rfl, hbq, hkq⟩ := hp.none_; clear hp; exact SPost.no HO2.out ⟨rfl, rfl, hbq.out, GH.keep HS.out.drew.kept hkq.out, _, HS.out.drew.pk.keep hkq.out (Ne.symm HS.out.gh)⟩)
 | some x =>
  obtain ⟨n, l2⟩ := x
  have HT : Aside0 (∀ W, RdAt w0 W g l → Below w0.heap.size w0 W → Calls Tryz.prog 165 #[.pointer (some ⟨g, 0, none⟩)] W (RPost w0 W g (numV (some (n, l2))))) := ⟨fun W h1 h2 => by have := id_calls g l w0 W h1 h2; rw [hx] at this; exact this⟩
  have HO2 : Aside0 (o = if l2 = [] then none else (subLoop true true (l2.length + 1) [] [] l2).bind fun (ns, cs) => if cs.any (badI 8) = true then none else some (n, ns, cs)) := ⟨by rw [HO.out]; simp [subF, hx]⟩
  clear HO hx
  go_enter Tryz.func99, Tryz.ntmps99
  go_upto_region 22 with (fail)
  go_region_held3 (fun w' => w'.cell? ⟨w.heap.size, 0, none⟩ = some (.pointer (some ⟨h, 0, none⟩))) (first | exact HS.out.drew.box | exact cbq | exact (HS2.out.set (q := { p with id := n }) 2 (.int .i64 (n : Int)) rfl).box) ((go_at_call 165; refine (HT.out _ HS.out.drew.rd HS.out.drew.bel).mono ?_; rintro e wq hp; obtain ⟨rfl, hrq, hbq, hkq⟩ := hp.some_; clear hp; have HS2 := Amk (HS.out.drew.read hrq.out hbq.out hkq.out); have cbq := HS2.out.box; have zq := HS2.out.frozen 2; have cq := (HS2.out.cell 2).trans (show _ = some (Value.int .i64 p.id) from rfl)))
  have HS3 := Amk (Sub.mk0 (HS2.out.set (q := { p with id := n }) 2 (.int .i64 (n : Int)) rfl) HNM.out.1 HNM.out.2 HSZ.out)
  clear HS HS2 HT cb c0 cbq zq cq hrq hbq hkq
  generalize wq.setCell ⟨h, 2, none⟩ (.int .i64 (n : Int)) = w3 at *
  have cg := HS3.out.st.str
  cases l2 with
  | nil =>
   go_wp2_with (go_at_call 96; refine (unless_no _).mono ?_; rintro e wz ⟨rfl, rfl⟩)
   exact HS3.out.no rfl (HO2.out.trans (by simp))
  | cons y0 l8 =>
   have hl : (y0 :: l8).isEmpty = false := rfl
   obtain ⟨r, hr⟩ : ∃ r, r = subLoop true true ((y0 :: l8).length + 1) [] [] (y0 :: l8) := ⟨_, rfl⟩
   have HR0 := Amk hr.symm
   have HO : Aside0 (o = r.bind fun (ns, cs) => if cs.any (badI 8) = true then none else some (n, ns, cs)) := ⟨by rw [HO2.out, if_neg (by simp), hr]⟩
   clear HO2 hr
   go_wp2_with (go_at_call 96; refine (unless_yes _).mono ?_; rintro e wz ⟨rfl, rfl⟩)
   go_loopg [] ((y0 :: l8).length + 1) (fun kq wr => ∃ q ns cs l', Aside0 (Sub w0 w g h w.heap.size q l' wr ns cs) ∧ Aside0 (q.kind = 8) ∧ Aside0 (∃ vN vC, q = { p with id := n, names := vN, codes := vC }) ∧ Aside0 (l'.length + 1 ≤ kq) ∧ Aside0 (subLoop true true kq ns cs l' = r) ∧ Aside0 (ns.length ≤ 32 ∧ cs.length ≤ 32))
   case atStart => exact ⟨_, _, _, _, HS3, HPK, ⟨_, _, rfl⟩, ⟨Nat.le_refl _⟩, HR0, ⟨by decide⟩⟩
   case round =>
    obtain ⟨q, ns, cs, l', HQ, HK, HE, HLE, HR, HL⟩ := hrel
    clear HS3 HR0 cg hl
    cases gk with
    | zero => exact absurd HLE.out (by omega)
    | succ gi =>
     cases l' with
     | nil =>
      have HR2 : Aside0 (r = some (ns, cs)) := ⟨by rw [← HR.out, subLoop, if_pos rfl]⟩
      clear HR
      have cb := HQ.out.st.box
      have cg := HQ.out.st.str
      have c0 : wr.cell? ⟨h, 0, none⟩ = some (.int .i64 8) := (HQ.out.st.cell 0).trans (by rw [← HK.out]; rfl)
      obtain ⟨A2, e2, hC1, _, hCC⟩ := Kd.R_reads HQ.out.cd
      have c11 : wr.cell? ⟨h, 11, none⟩ = some (.slice A2 cs.length e2) := (HQ.out.st.cell 11).trans (by rw [← hC1]; rfl)
      have HCT := Amk (containsI 8 w.heap.size h cs A2 e2 wr cb c0 hCC (by have := HL.out; omega))
      clear hC1 hCC
      have hmf : ∀ (fn : Fn) (first cap : Array Value) (w : World), (Instr.makeFunc fn first cap).run Tryz.prog w = .ok (.func fn first cap) w := fun _ _ _ _ => rfl
      obtain ⟨bd, hbd⟩ : ∃ bd, bd = cs.any (badI 8) := ⟨_, rfl⟩
      rw [← hbd] at HCT
      have HBD := Amk hbd
      clear hbd
      cases bd
      ·
       have HO2 : Aside0 (o = some (n, ns, cs)) := ⟨by rw [HO.out, HR2.out]; simp only [Option.bind_some]; rw [← HBD.out]; rfl⟩
       go_wp2_with (first | (go_at_call 167; refine HCT.out.mono ?_; rintro e wz ⟨rfl, rfl⟩) | (go_at_call 96; refine (unless_yes _).mono ?_; rintro e wz ⟨rfl, rfl⟩))
       go_end0
       obtain ⟨vN, vC, rfl⟩ := HE.out
       exact HQ.out.yes HO2.out
      ·
       have HO2 : Aside0 (o = none) := ⟨by rw [HO.out, HR2.out]; simp only [Option.bind_some]; rw [← HBD.out]; rfl⟩
       go_wp2_with (first | (go_at_call 167; refine HCT.out.mono ?_; rintro e wz ⟨rfl, rfl⟩) | (go_at_call 96; refine (unless_no _).mono ?_; rintro e wz ⟨rfl, rfl⟩))
       exact HQ.out.no rfl HO2.out
     | cons y l9 =>
      have hl : (y :: l9).isEmpty = false := rfl
      have cb := HQ.out.st.box
      have c0 : wr.cell? ⟨h, 0, none⟩ = some (.int .i64 8) := (HQ.out.st.cell 0).trans (by rw [← HK.out]; rfl)
      have cg := HQ.out.st.str
      have HR2 : Aside0 (r = (subN true ns (y :: l9)).bind fun (ns, l) => (subC true cs l).bind fun (cs, l) => if ns.length ≤ 32 ∧ cs.length ≤ 32 then subLoop true true gi ns cs l else none) := ⟨by rw [← HR.out, subLoop]; rw [if_neg (by simp)]⟩
      clear HR
      obtain ⟨An, en, hqn, _, _⟩ := Kd.R_reads HQ.out.nm
      have HQN := Amk hqn
      clear hqn
      have cnN : wr.cell? ⟨h, 10, none⟩ = some (Value.slice An ns.length en) := (HQ.out.st.cell 10).trans (by rw [← HQN.out]; rfl)
      cases hN : textF (y :: l9) with
      | none =>
       have HO2 : Aside0 (o = none) := ⟨by rw [HO.out, HR2.out]; simp [subN, subC, hN]⟩
       have HT : Aside0 (∀ W, RdAt w0 W g (y :: l9) → Below w0.heap.size w0 W → Calls Tryz.prog 164 #[.pointer (some ⟨g, 0, none⟩)] W (RPost w0 W g none)) := ⟨fun W h1 h2 => by have := text_calls g (y :: l9) w0 W h1 h2; rw [hN] at this; exact this⟩
       go_upto_region 26 with (fail)
       refine wp_region_held_drew (S := (fun w' => w'.cell? ⟨w.heap.size, 0, none⟩ = some (.pointer (some ⟨h, 0, none⟩)))) (by kernel_rfl) HQ.out.drew.st.box (fun hHeld => ?_)
       refine wpAnyH_take (i := 0) (v := ?_) rfl (by kernel_rfl) (by kernel_rfl) (by kernel_rfl) (fun _ _ _ h => h) (Or.inl ⟨by rfl, ?_⟩) hHeld ?_; rotate_left; focus (intro w_ hSw; (try dsimp only at hSw); go_simp; (try with_reducible rfl)); rotate_left; try simp only [Act.put, Lsa, Lsz, Lss]
       refine wpAnyH_take (i := 1) (v := ?_) rfl (by kernel_rfl) (by kernel_rfl) (by kernel_rfl) (fun _ _ _ h => h) (Or.inl ⟨by rfl, ?_⟩) hHeld ?_; rotate_left; focus (intro w_ hSw; (try dsimp only at hSw); go_simp; (try with_reducible rfl)); rotate_left; try simp only [Act.put, Lsa, Lsz, Lss]
       refine wpAnyH_take (i := 2) (v := ?_) rfl (by kernel_rfl) (by kernel_rfl) (by kernel_rfl) (fun _ _ _ h => h) (Or.inl ⟨by rfl, ?_⟩) hHeld ?_; rotate_left; focus (intro w_ hSw; (try dsimp only at hSw); go_simp; (try with_reducible rfl)); rotate_left; try simp only [Act.put, Lsa, Lsz, Lss]
       refine wpAnyH_take (i := 3) (v := ?_) rfl (by kernel_rfl) (by kernel_rfl) (by kernel_rfl) (fun _ _ _ h => h) (Or.inl ⟨by rfl, ?_⟩) hHeld ?_; rotate_left; focus (intro w_ hSw; (try dsimp only at hSw); go_simp; (try with_reducible rfl)); rotate_left; try simp only [Act.put, Lsa, Lsz, Lss]
       refine wpAnyH_take (i := 5) (v := ?_) rfl (by kernel_rfl) (by kernel_rfl) (by kernel_rfl) (fun _ _ _ h => h) (Or.inl ⟨by rfl, ?_⟩) hHeld ?_; rotate_left; focus (intro w_ hSw; (try dsimp only at hSw); go_simp; (try with_reducible rfl)); rotate_left; try simp only [Act.put, Lsa, Lsz, Lss]
       refine wpAnyH_ready (rs := [4, 6]) (by kernel_rfl) (by simp) ?_
       refine AllReadyH.cons rfl (fun K hK => ?_) (AllReadyH.cons rfl (fun K hK => ?_) AllReadyH.nil)
       ·
        go_simp
        refine hK.out _ _ hHeld (fun hHeld => ?_)
        clear hK K
        try simp only [Act.put, Lsa, Lsz, Lss]
        refine wpAnyH_ready (rs := [6]) (by kernel_rfl) (by simp) ?_
        refine AllReadyH.cons rfl (fun K hK => ?_) AllReadyH.nil
        go_simp
        go_wp2_with (go_at_call 164; refine (HT.out _ HQ.out.drew.st.rd HQ.out.drew.st.bel).mono ?_; rintro e wq hp; obtain ⟨rfl, hbq, hkq⟩ := hp.none_; clear hp; exact SPost.no HO2.out ⟨rfl, rfl, hbq.out, GH.keep HQ.out.drew.st.kept hkq.out, _, HQ.out.drew.st.pk.keep hkq.out (Ne.symm HQ.out.st.gh)⟩)
       ·
        go_simp
        go_wp2_with (go_at_call 164; refine (HT.out _ HQ.out.drew.st.rd HQ.out.drew.st.bel).mono ?_; rintro e wq hp; obtain ⟨rfl, hbq, hkq⟩ := hp.none_; clear hp; exact SPost.no HO2.out ⟨rfl, rfl, hbq.out, GH.keep HQ.out.drew.st.kept hkq.out, _, HQ.out.drew.st.pk.keep hkq.out (Ne.symm HQ.out.st.gh)⟩)
      | some x =>
       obtain ⟨t, l2⟩ := x
       have HLN := Amk (textF_len hN)
       have HR3 : Aside0 (r = (subC true cs l2).bind fun (cs, l) => if (ns ++ [(⟨t.toArray⟩ : ByteArray)]).length ≤ 32 ∧ cs.length ≤ 32 then subLoop true true gi (ns ++ [(⟨t.toArray⟩ : ByteArray)]) cs l else none) := ⟨by rw [HR2.out]; simp [subN, hN]⟩
       have HT : Aside0 (∀ W, RdAt w0 W g (y :: l9) → Below w0.heap.size w0 W → Calls Tryz.prog 164 #[.pointer (some ⟨g, 0, none⟩)] W (RPost w0 W g (textV (some (t, l2))))) := ⟨fun W h1 h2 => by have := text_calls g (y :: l9) w0 W h1 h2; rw [hN] at this; exact this⟩
       clear HR2 hN
       go_upto_region 26 with (fail)
       go_cut [] (fun wx => ∃ q', Aside0 (Sub w0 w g h w.heap.size q' l2 wx (ns ++ [(⟨t.toArray⟩ : ByteArray)]) cs) ∧ Aside0 (q'.kind = 8) ∧ Aside0 (∃ vN vC, q' = { p with id := n, names := vN, codes := vC }))
       case first =>
        refine wp_region_held_drew (S := (fun w' => w'.cell? ⟨w.heap.size, 0, none⟩ = some (.pointer (some ⟨h, 0, none⟩)))) (by kernel_rfl) (by first | exact HQ.out.drew.st.box | exact HQ.out.st.box) (fun hHeld => ?_)
        refine tkH 0 ?_ hHeld ?_ ?_; rotate_left; focus (intro w_ hSw; (try dsimp only at hSw); go_simp; (try simp only [hSw]); (try rfl)); rotate_left; try simp only [Lga, Lgz, Lgs, Act.put, Lsa, Lsz, Lss]
        refine tkH 1 ?_ hHeld ?_ ?_; rotate_left; focus (intro w_ hSw; (try dsimp only at hSw); go_simp; (try simp only [hSw]); (try rfl)); rotate_left; try simp only [Lga, Lgz, Lgs, Act.put, Lsa, Lsz, Lss]
        refine tkH 2 ?_ hHeld ?_ ?_; rotate_left; focus (intro w_ hSw; (try dsimp only at hSw); go_simp; (try simp only [hSw]); (try rfl)); rotate_left; try simp only [Lga, Lgz, Lgs, Act.put, Lsa, Lsz, Lss]
        refine tkH 3 ?_ hHeld ?_ ?_; rotate_left; focus (intro w_ hSw; (try dsimp only at hSw); go_simp; (try simp only [hSw]); (try rfl)); rotate_left; try simp only [Lga, Lgz, Lgs, Act.put, Lsa, Lsz, Lss]
        refine tkH 5 ?_ hHeld ?_ ?_; rotate_left; focus (intro w_ hSw; (try dsimp only at hSw); go_simp; (try simp only [hSw]); (try rfl)); rotate_left; try simp only [Lga, Lgz, Lgs, Act.put, Lsa, Lsz, Lss]
        refine wpAnyH_ready (rs := [4, 6]) (by kernel_rfl) (by simp) ?_
        refine AllReadyH.cons rfl (fun K hK => ?_) (AllReadyH.cons rfl (fun K hK => ?_) AllReadyH.nil)
        ·
         go_simp
         (first | refine hK.out _ _ HQ.out.drew.st.box (fun hHeld => ?_) | refine hK _ _ HQ.out.drew.st.box (fun hHeld => ?_)); try simp only [Lga, Lgz, Lgs, Act.put, Lsa, Lsz, Lss]
         refine wpAnyH_ready (rs := [6]) (by kernel_rfl) (by simp) ?_
         refine AllReadyH.cons rfl (fun K hK => ?_) AllReadyH.nil
         ·
          go_wp2_with (go_at_call 164; refine (HT.out _ HQ.out.drew.st.rd HQ.out.drew.st.bel).mono ?_; rintro e wq hp; obtain ⟨rfl, hrq, hbq, hkq⟩ := hp.some_; clear hp; have HA := Amk (HQ.out.drew.read hrq.out hbq.out hkq.out); have cbq := HA.out.st.box; have cnq := (HA.out.st.cell 10).trans (show _ = some (Value.slice An ns.length en) from by rw [← HQN.out]; rfl); have cnr := ((HA.out.st.alloc (.cells #[.string ⟨t.toArray⟩] 9)).cell 10).trans (show _ = some (Value.slice An ns.length en) from by rw [← HQN.out]; rfl))
          (first | refine hK.out _ _ cbq (fun hHeld => ?_) | refine hK _ _ cbq (fun hHeld => ?_)); try simp only [Lga, Lgz, Lgs, Act.put, Lsa, Lsz, Lss]
          refine wpAnyH_ready (rs := [7]) (by kernel_rfl) (by simp) ?_
          refine AllReadyH.cons rfl (fun K hK => ?_) AllReadyH.nil
          ·
           go_simp
           (first | refine hK.out _ _ (HA.out.st.alloc _).box (fun hHeld => ?_) | refine hK _ _ (HA.out.st.alloc _).box (fun hHeld => ?_)); try simp only [Lga, Lgz, Lgs, Act.put, Lsa, Lsz, Lss]
           refine wpAnyH_ready (rs := [8]) (by kernel_rfl) (by simp) ?_
           refine AllReadyH.cons rfl (fun K hK => ?_) AllReadyH.nil
           ·
            refine Kd.R_append_step Kd.string (w0 := wq) w.heap.size rfl (.tmp 114) (.tmp 117) 37 9 (.string ⟨#[]⟩) 16 rfl Tryz.underlying37 Go.Proofs.YtednegmjjjdinaaGreatDoor.K.info9 rfl (by decide) (by decide) (.slice An ns.length en) ns (⟨t.toArray⟩ : ByteArray) [.string ⟨t.toArray⟩] (fun _ => True) (fun _ => False) rfl rfl rfl (fun _ hk => hk.elim) (fun _ _ => trivial) (by rw [← HQN.out]; exact HA.out.nm) (Below.refl _ _) (Nat.le_trans HA.out.st.wb (Nat.le_of_lt (blk_lt HA.out.st.bx))) (by have := HL.out; omega) ?_; intro v1 w1 hR hB hG hat; obtain ⟨A1, c1, hv⟩ := Kd.R_slice hR; obtain ⟨nl, hnl⟩ : ∃ nl, nl = (ns ++ [(⟨t.toArray⟩ : ByteArray)]).length := ⟨_, rfl⟩; rw [← hnl] at hv; subst hv; clear hnl; have hR1 := Amk hR; have hB1 := Amk hB; have hG1 : Aside0 (wq.grownBy w1 q.names.ownBlock) := ⟨by rw [HQN.out]; exact hG⟩; clear hR hB hG hat; have cbr := (HA.out.pushN hR1.out hB1.out hG1.out).st.box; have z1 := (HA.out.grown hB1.out hG1.out (Kd.R_ne HA.out.nm HA.out.st.rd.1 (by decide)) (Kd.R_ne HA.out.nm HA.out.st.pk.1 (by decide)) (Kd.R_ne HA.out.nm HA.out.st.bx (by decide))).pk; have z2 := z1.frozen 10; have z3 := (z1.cell 10).trans (show _ = some (Value.slice An ns.length en) from by rw [← HQN.out]; rfl); have z4 := (HA.out.grown hB1.out hG1.out (Kd.R_ne HA.out.nm HA.out.st.rd.1 (by decide)) (Kd.R_ne HA.out.nm HA.out.st.pk.1 (by decide)) (Kd.R_ne HA.out.nm HA.out.st.bx (by decide))).box; clear z1
            (first | refine hK.out _ _ z4 (fun hHeld => ?_) | refine hK _ _ z4 (fun hHeld => ?_)); try simp only [Lga, Lgz, Lgs, Act.put, Lsa, Lsz, Lss]
            refine tkH 9 ?_ hHeld ?_ ?_; rotate_left; focus (intro w_ hSw; (try dsimp only at hSw); go_simp; (try simp only [hSw]); (try rfl)); rotate_left; try simp only [Lga, Lgz, Lgs, Act.put, Lsa, Lsz, Lss]
            refine tkH 10 ?_ hHeld ?_ ?_; rotate_left; focus (intro w_ hSw; (try dsimp only at hSw); go_simp; (try simp only [hSw]); (try rfl)); rotate_left; try simp only [Lga, Lgz, Lgs, Act.put, Lsa, Lsz, Lss]
            refine wpAnyH_ready (rs := [11]) (by kernel_rfl) (by simp) ?_
            refine AllReadyH.cons rfl (fun K hK => ?_) AllReadyH.nil
            ·
             go_simp
             (first | refine hK.out _ _ cbr (fun hHeld => ?_) | refine hK _ _ cbr (fun hHeld => ?_)); try simp only [Lga, Lgz, Lgs, Act.put, Lsa, Lsz, Lss]
             refine wpAnyH_done (by kernel_rfl) ?_ _
             clear hK K
             go_wp2_with fail
             go_meet
             exact ⟨_, ⟨HA.out.pushN hR1.out hB1.out hG1.out⟩, HK, ⟨by obtain ⟨vN, vC, e⟩ := HE.out; rw [e]; exact ⟨_, _, rfl⟩⟩⟩
        ·
         go_wp2_with (go_at_call 164; refine (HT.out _ HQ.out.drew.st.rd HQ.out.drew.st.bel).mono ?_; rintro e wq hp; obtain ⟨rfl, hrq, hbq, hkq⟩ := hp.some_; clear hp; have HA := Amk (HQ.out.drew.read hrq.out hbq.out hkq.out); have cbq := HA.out.st.box; have cnq := (HA.out.st.cell 10).trans (show _ = some (Value.slice An ns.length en) from by rw [← HQN.out]; rfl); have cnr := ((HA.out.st.alloc (.cells #[.string ⟨t.toArray⟩] 9)).cell 10).trans (show _ = some (Value.slice An ns.length en) from by rw [← HQN.out]; rfl))
         (first | refine hK.out _ _ cbq (fun hHeld => ?_) | refine hK _ _ cbq (fun hHeld => ?_)); try simp only [Lga, Lgz, Lgs, Act.put, Lsa, Lsz, Lss]
         refine wpAnyH_ready (rs := [4, 7]) (by kernel_rfl) (by simp) ?_
         refine AllReadyH.cons rfl (fun K hK => ?_) (AllReadyH.cons rfl (fun K hK => ?_) AllReadyH.nil)
         ·
          go_simp
          (first | refine hK.out _ _ cbq (fun hHeld => ?_) | refine hK _ _ cbq (fun hHeld => ?_)); try simp only [Lga, Lgz, Lgs, Act.put, Lsa, Lsz, Lss]
          refine wpAnyH_ready (rs := [7]) (by kernel_rfl) (by simp) ?_
          refine AllReadyH.cons rfl (fun K hK => ?_) AllReadyH.nil
          ·
           go_simp
           (first | refine hK.out _ _ (HA.out.st.alloc _).box (fun hHeld => ?_) | refine hK _ _ (HA.out.st.alloc _).box (fun hHeld => ?_)); try simp only [Lga, Lgz, Lgs, Act.put, Lsa, Lsz, Lss]
           refine wpAnyH_ready (rs := [8]) (by kernel_rfl) (by simp) ?_
           refine AllReadyH.cons rfl (fun K hK => ?_) AllReadyH.nil
           ·
            refine Kd.R_append_step Kd.string (w0 := wq) w.heap.size rfl (.tmp 114) (.tmp 117) 37 9 (.string ⟨#[]⟩) 16 rfl Tryz.underlying37 Go.Proofs.YtednegmjjjdinaaGreatDoor.K.info9 rfl (by decide) (by decide) (.slice An ns.length en) ns (⟨t.toArray⟩ : ByteArray) [.string ⟨t.toArray⟩] (fun _ => True) (fun _ => False) rfl rfl rfl (fun _ hk => hk.elim) (fun _ _ => trivial) (by rw [← HQN.out]; exact HA.out.nm) (Below.refl _ _) (Nat.le_trans HA.out.st.wb (Nat.le_of_lt (blk_lt HA.out.st.bx))) (by have := HL.out; omega) ?_; intro v1 w1 hR hB hG hat; obtain ⟨A1, c1, hv⟩ := Kd.R_slice hR; obtain ⟨nl, hnl⟩ : ∃ nl, nl = (ns ++ [(⟨t.toArray⟩ : ByteArray)]).length := ⟨_, rfl⟩; rw [← hnl] at hv; subst hv; clear hnl; have hR1 := Amk hR; have hB1 := Amk hB; have hG1 : Aside0 (wq.grownBy w1 q.names.ownBlock) := ⟨by rw [HQN.out]; exact hG⟩; clear hR hB hG hat; have cbr := (HA.out.pushN hR1.out hB1.out hG1.out).st.box; have z1 := (HA.out.grown hB1.out hG1.out (Kd.R_ne HA.out.nm HA.out.st.rd.1 (by decide)) (Kd.R_ne HA.out.nm HA.out.st.pk.1 (by decide)) (Kd.R_ne HA.out.nm HA.out.st.bx (by decide))).pk; have z2 := z1.frozen 10; have z3 := (z1.cell 10).trans (show _ = some (Value.slice An ns.length en) from by rw [← HQN.out]; rfl); have z4 := (HA.out.grown hB1.out hG1.out (Kd.R_ne HA.out.nm HA.out.st.rd.1 (by decide)) (Kd.R_ne HA.out.nm HA.out.st.pk.1 (by decide)) (Kd.R_ne HA.out.nm HA.out.st.bx (by decide))).box; clear z1
            (first | refine hK.out _ _ z4 (fun hHeld => ?_) | refine hK _ _ z4 (fun hHeld => ?_)); try simp only [Lga, Lgz, Lgs, Act.put, Lsa, Lsz, Lss]
            refine tkH 9 ?_ hHeld ?_ ?_; rotate_left; focus (intro w_ hSw; (try dsimp only at hSw); go_simp; (try simp only [hSw]); (try rfl)); rotate_left; try simp only [Lga, Lgz, Lgs, Act.put, Lsa, Lsz, Lss]
            refine tkH 10 ?_ hHeld ?_ ?_; rotate_left; focus (intro w_ hSw; (try dsimp only at hSw); go_simp; (try simp only [hSw]); (try rfl)); rotate_left; try simp only [Lga, Lgz, Lgs, Act.put, Lsa, Lsz, Lss]
            refine wpAnyH_ready (rs := [11]) (by kernel_rfl) (by simp) ?_
            refine AllReadyH.cons rfl (fun K hK => ?_) AllReadyH.nil
            ·
             go_simp
             (first | refine hK.out _ _ cbr (fun hHeld => ?_) | refine hK _ _ cbr (fun hHeld => ?_)); try simp only [Lga, Lgz, Lgs, Act.put, Lsa, Lsz, Lss]
             refine wpAnyH_done (by kernel_rfl) ?_ _
             clear hK K
             go_wp2_with fail
             go_meet
             exact ⟨_, ⟨HA.out.pushN hR1.out hB1.out hG1.out⟩, HK, ⟨by obtain ⟨vN, vC, e⟩ := HE.out; rw [e]; exact ⟨_, _, rfl⟩⟩⟩
         ·
          go_simp
          (first | refine hK.out _ _ (HA.out.st.alloc _).box (fun hHeld => ?_) | refine hK _ _ (HA.out.st.alloc _).box (fun hHeld => ?_)); try simp only [Lga, Lgz, Lgs, Act.put, Lsa, Lsz, Lss]
          refine wpAnyH_ready (rs := [4]) (by kernel_rfl) (by simp) ?_
          refine AllReadyH.cons rfl (fun K hK => ?_) AllReadyH.nil
          ·
           go_simp
           (first | refine hK.out _ _ (HA.out.st.alloc _).box (fun hHeld => ?_) | refine hK _ _ (HA.out.st.alloc _).box (fun hHeld => ?_)); try simp only [Lga, Lgz, Lgs, Act.put, Lsa, Lsz, Lss]
           refine wpAnyH_ready (rs := [8]) (by kernel_rfl) (by simp) ?_
           refine AllReadyH.cons rfl (fun K hK => ?_) AllReadyH.nil
           ·
            refine Kd.R_append_step Kd.string (w0 := wq) w.heap.size rfl (.tmp 114) (.tmp 117) 37 9 (.string ⟨#[]⟩) 16 rfl Tryz.underlying37 Go.Proofs.YtednegmjjjdinaaGreatDoor.K.info9 rfl (by decide) (by decide) (.slice An ns.length en) ns (⟨t.toArray⟩ : ByteArray) [.string ⟨t.toArray⟩] (fun _ => True) (fun _ => False) rfl rfl rfl (fun _ hk => hk.elim) (fun _ _ => trivial) (by rw [← HQN.out]; exact HA.out.nm) (Below.refl _ _) (Nat.le_trans HA.out.st.wb (Nat.le_of_lt (blk_lt HA.out.st.bx))) (by have := HL.out; omega) ?_; intro v1 w1 hR hB hG hat; obtain ⟨A1, c1, hv⟩ := Kd.R_slice hR; obtain ⟨nl, hnl⟩ : ∃ nl, nl = (ns ++ [(⟨t.toArray⟩ : ByteArray)]).length := ⟨_, rfl⟩; rw [← hnl] at hv; subst hv; clear hnl; have hR1 := Amk hR; have hB1 := Amk hB; have hG1 : Aside0 (wq.grownBy w1 q.names.ownBlock) := ⟨by rw [HQN.out]; exact hG⟩; clear hR hB hG hat; have cbr := (HA.out.pushN hR1.out hB1.out hG1.out).st.box; have z1 := (HA.out.grown hB1.out hG1.out (Kd.R_ne HA.out.nm HA.out.st.rd.1 (by decide)) (Kd.R_ne HA.out.nm HA.out.st.pk.1 (by decide)) (Kd.R_ne HA.out.nm HA.out.st.bx (by decide))).pk; have z2 := z1.frozen 10; have z3 := (z1.cell 10).trans (show _ = some (Value.slice An ns.length en) from by rw [← HQN.out]; rfl); have z4 := (HA.out.grown hB1.out hG1.out (Kd.R_ne HA.out.nm HA.out.st.rd.1 (by decide)) (Kd.R_ne HA.out.nm HA.out.st.pk.1 (by decide)) (Kd.R_ne HA.out.nm HA.out.st.bx (by decide))).box; clear z1
            (first | refine hK.out _ _ z4 (fun hHeld => ?_) | refine hK _ _ z4 (fun hHeld => ?_)); try simp only [Lga, Lgz, Lgs, Act.put, Lsa, Lsz, Lss]
            refine tkH 9 ?_ hHeld ?_ ?_; rotate_left; focus (intro w_ hSw; (try dsimp only at hSw); go_simp; (try simp only [hSw]); (try rfl)); rotate_left; try simp only [Lga, Lgz, Lgs, Act.put, Lsa, Lsz, Lss]
            refine tkH 10 ?_ hHeld ?_ ?_; rotate_left; focus (intro w_ hSw; (try dsimp only at hSw); go_simp; (try simp only [hSw]); (try rfl)); rotate_left; try simp only [Lga, Lgz, Lgs, Act.put, Lsa, Lsz, Lss]
            refine wpAnyH_ready (rs := [11]) (by kernel_rfl) (by simp) ?_
            refine AllReadyH.cons rfl (fun K hK => ?_) AllReadyH.nil
            ·
             go_simp
             (first | refine hK.out _ _ cbr (fun hHeld => ?_) | refine hK _ _ cbr (fun hHeld => ?_)); try simp only [Lga, Lgz, Lgs, Act.put, Lsa, Lsz, Lss]
             refine wpAnyH_done (by kernel_rfl) ?_ _
             clear hK K
             go_wp2_with fail
             go_meet
             exact ⟨_, ⟨HA.out.pushN hR1.out hB1.out hG1.out⟩, HK, ⟨by obtain ⟨vN, vC, e⟩ := HE.out; rw [e]; exact ⟨_, _, rfl⟩⟩⟩
       case rest =>
        clear HK HE HT HQN cnN HQ cb c0 cg
        obtain ⟨q1, HN, HK, HE⟩ := hcut
        obtain ⟨wN, rfl⟩ : ∃ W : World, W = wc := ⟨_, rfl⟩
        have cb := HN.out.st.box
        have c0 : wN.cell? ⟨h, 0, none⟩ = some (.int .i64 8) := (HN.out.st.cell 0).trans (by rw [← HK.out]; rfl)
        obtain ⟨An, en, hqn, _, _⟩ := Kd.R_reads HN.out.cd
        have HQN := Amk hqn
        clear hqn
        have cnC : wN.cell? ⟨h, 11, none⟩ = some (Value.slice An cs.length en) := (HN.out.st.cell 11).trans (by rw [← HQN.out]; rfl)
        cases hC : byteF l2 with
        | none =>
         have HO2 : Aside0 (o = none) := ⟨by rw [HO.out, HR3.out]; simp [subN, subC, hC]⟩
         have HT : Aside0 (∀ W, RdAt w0 W g l2 → Below w0.heap.size w0 W → Calls Tryz.prog 163 #[.pointer (some ⟨g, 0, none⟩)] W (RPost w0 W g none)) := ⟨fun W h1 h2 => by have := byte_calls g l2 w0 W h1 h2; rw [hC] at this; exact this⟩
         go_upto_region 28 with (fail)
         refine wp_region_held_drew (S := (fun w' => w'.cell? ⟨w.heap.size, 0, none⟩ = some (.pointer (some ⟨h, 0, none⟩)))) (by kernel_rfl) HN.out.drew.st.box (fun hHeld => ?_)
         refine wpAnyH_take (i := 0) (v := ?_) rfl (by kernel_rfl) (by kernel_rfl) (by kernel_rfl) (fun _ _ _ h => h) (Or.inl ⟨by rfl, ?_⟩) hHeld ?_; rotate_left; focus (intro w_ hSw; (try dsimp only at hSw); go_simp; (try with_reducible rfl)); rotate_left; try simp only [Act.put, Lsa, Lsz, Lss]
         refine wpAnyH_take (i := 1) (v := ?_) rfl (by kernel_rfl) (by kernel_rfl) (by kernel_rfl) (fun _ _ _ h => h) (Or.inl ⟨by rfl, ?_⟩) hHeld ?_; rotate_left; focus (intro w_ hSw; (try dsimp only at hSw); go_simp; (try with_reducible rfl)); rotate_left; try simp only [Act.put, Lsa, Lsz, Lss]
         refine wpAnyH_take (i := 2) (v := ?_) rfl (by kernel_rfl) (by kernel_rfl) (by kernel_rfl) (fun _ _ _ h => h) (Or.inl ⟨by rfl, ?_⟩) hHeld ?_; rotate_left; focus (intro w_ hSw; (try dsimp only at hSw); go_simp; (try with_reducible rfl)); rotate_left; try simp only [Act.put, Lsa, Lsz, Lss]
         refine wpAnyH_take (i := 3) (v := ?_) rfl (by kernel_rfl) (by kernel_rfl) (by kernel_rfl) (fun _ _ _ h => h) (Or.inl ⟨by rfl, ?_⟩) hHeld ?_; rotate_left; focus (intro w_ hSw; (try dsimp only at hSw); go_simp; (try with_reducible rfl)); rotate_left; try simp only [Act.put, Lsa, Lsz, Lss]
         refine wpAnyH_take (i := 5) (v := ?_) rfl (by kernel_rfl) (by kernel_rfl) (by kernel_rfl) (fun _ _ _ h => h) (Or.inl ⟨by rfl, ?_⟩) hHeld ?_; rotate_left; focus (intro w_ hSw; (try dsimp only at hSw); go_simp; (try with_reducible rfl)); rotate_left; try simp only [Act.put, Lsa, Lsz, Lss]
         refine wpAnyH_ready (rs := [4, 6]) (by kernel_rfl) (by simp) ?_
         refine AllReadyH.cons rfl (fun K hK => ?_) (AllReadyH.cons rfl (fun K hK => ?_) AllReadyH.nil)
         ·
          go_simp
          refine hK.out _ _ hHeld (fun hHeld => ?_)
          clear hK K
          try simp only [Act.put, Lsa, Lsz, Lss]
          refine wpAnyH_ready (rs := [6]) (by kernel_rfl) (by simp) ?_
          refine AllReadyH.cons rfl (fun K hK => ?_) AllReadyH.nil
          go_simp
          go_wp2_with (go_at_call 163; refine (HT.out _ HN.out.drew.st.rd HN.out.drew.st.bel).mono ?_; rintro e wq hp; obtain ⟨rfl, hbq, hkq⟩ := hp.none_; clear hp; exact SPost.no HO2.out ⟨rfl, rfl, hbq.out, GH.keep HN.out.drew.st.kept hkq.out, _, HN.out.drew.st.pk.keep hkq.out (Ne.symm HN.out.st.gh)⟩)
         ·
          go_simp
          go_wp2_with (go_at_call 163; refine (HT.out _ HN.out.drew.st.rd HN.out.drew.st.bel).mono ?_; rintro e wq hp; obtain ⟨rfl, hbq, hkq⟩ := hp.none_; clear hp; exact SPost.no HO2.out ⟨rfl, rfl, hbq.out, GH.keep HN.out.drew.st.kept hkq.out, _, HN.out.drew.st.pk.keep hkq.out (Ne.symm HN.out.st.gh)⟩)
        | some x =>
         obtain ⟨c, l3⟩ := x
         have HLC := Amk (byteF_len hC)
         have HR4 : Aside0 (r = if (ns ++ [(⟨t.toArray⟩ : ByteArray)]).length ≤ 32 ∧ (cs ++ [(c : Int)]).length ≤ 32 then subLoop true true gi (ns ++ [(⟨t.toArray⟩ : ByteArray)]) (cs ++ [(c : Int)]) l3 else none) := ⟨by rw [HR3.out]; simp [subN, subC, hC]⟩
         have HT : Aside0 (∀ W, RdAt w0 W g l2 → Below w0.heap.size w0 W → Calls Tryz.prog 163 #[.pointer (some ⟨g, 0, none⟩)] W (RPost w0 W g (numV (some (c, l3))))) := ⟨fun W h1 h2 => by have := byte_calls g l2 w0 W h1 h2; rw [hC] at this; exact this⟩
         clear HR3 hC
         go_upto_region 28 with (fail)
         go_cut [] (fun wx => ∃ q', Aside0 (Sub w0 w g h w.heap.size q' l3 wx (ns ++ [(⟨t.toArray⟩ : ByteArray)]) (cs ++ [(c : Int)])) ∧ Aside0 (q'.kind = 8) ∧ Aside0 (∃ vN vC, q' = { p with id := n, names := vN, codes := vC }))
         case first =>
          refine wp_region_held_drew (S := (fun w' => w'.cell? ⟨w.heap.size, 0, none⟩ = some (.pointer (some ⟨h, 0, none⟩)))) (by kernel_rfl) (by first | exact HN.out.drew.st.box | exact HN.out.st.box) (fun hHeld => ?_)
          refine tkH 0 ?_ hHeld ?_ ?_; rotate_left; focus (intro w_ hSw; (try dsimp only at hSw); go_simp; (try simp only [hSw]); (try rfl)); rotate_left; try simp only [Lga, Lgz, Lgs, Act.put, Lsa, Lsz, Lss]
          refine tkH 1 ?_ hHeld ?_ ?_; rotate_left; focus (intro w_ hSw; (try dsimp only at hSw); go_simp; (try simp only [hSw]); (try rfl)); rotate_left; try simp only [Lga, Lgz, Lgs, Act.put, Lsa, Lsz, Lss]
          refine tkH 2 ?_ hHeld ?_ ?_; rotate_left; focus (intro w_ hSw; (try dsimp only at hSw); go_simp; (try simp only [hSw]); (try rfl)); rotate_left; try simp only [Lga, Lgz, Lgs, Act.put, Lsa, Lsz, Lss]
          refine tkH 3 ?_ hHeld ?_ ?_; rotate_left; focus (intro w_ hSw; (try dsimp only at hSw); go_simp; (try simp only [hSw]); (try rfl)); rotate_left; try simp only [Lga, Lgz, Lgs, Act.put, Lsa, Lsz, Lss]
          refine tkH 5 ?_ hHeld ?_ ?_; rotate_left; focus (intro w_ hSw; (try dsimp only at hSw); go_simp; (try simp only [hSw]); (try rfl)); rotate_left; try simp only [Lga, Lgz, Lgs, Act.put, Lsa, Lsz, Lss]
          refine wpAnyH_ready (rs := [4, 6]) (by kernel_rfl) (by simp) ?_
          refine AllReadyH.cons rfl (fun K hK => ?_) (AllReadyH.cons rfl (fun K hK => ?_) AllReadyH.nil)
          ·
           go_simp
           (first | refine hK.out _ _ HN.out.drew.st.box (fun hHeld => ?_) | refine hK _ _ HN.out.drew.st.box (fun hHeld => ?_)); try simp only [Lga, Lgz, Lgs, Act.put, Lsa, Lsz, Lss]
           refine wpAnyH_ready (rs := [6]) (by kernel_rfl) (by simp) ?_
           refine AllReadyH.cons rfl (fun K hK => ?_) AllReadyH.nil
           ·
            go_wp2_with (go_at_call 163; refine (HT.out _ HN.out.drew.st.rd HN.out.drew.st.bel).mono ?_; rintro e wq hp; obtain ⟨rfl, hrq, hbq, hkq⟩ := hp.some_; clear hp; have HA := Amk (HN.out.drew.read hrq.out hbq.out hkq.out); have cbq := HA.out.st.box; have cnq := (HA.out.st.cell 11).trans (show _ = some (Value.slice An cs.length en) from by rw [← HQN.out]; rfl); have cnr := ((HA.out.st.alloc (.cells #[.int .i64 (c : Int)] 3)).cell 11).trans (show _ = some (Value.slice An cs.length en) from by rw [← HQN.out]; rfl))
            (first | refine hK.out _ _ cbq (fun hHeld => ?_) | refine hK _ _ cbq (fun hHeld => ?_)); try simp only [Lga, Lgz, Lgs, Act.put, Lsa, Lsz, Lss]
            refine wpAnyH_ready (rs := [7]) (by kernel_rfl) (by simp) ?_
            refine AllReadyH.cons rfl (fun K hK => ?_) AllReadyH.nil
            ·
             go_simp
             (first | refine hK.out _ _ (HA.out.st.alloc _).box (fun hHeld => ?_) | refine hK _ _ (HA.out.st.alloc _).box (fun hHeld => ?_)); try simp only [Lga, Lgz, Lgs, Act.put, Lsa, Lsz, Lss]
             refine wpAnyH_ready (rs := [8]) (by kernel_rfl) (by simp) ?_
             refine AllReadyH.cons rfl (fun K hK => ?_) AllReadyH.nil
             ·
              refine Kd.R_append_step (Kd.int .i64) (w0 := wq) w.heap.size rfl (.tmp 130) (.tmp 133) 43 3 (.int .i64 0) 8 rfl Tryz.underlying43 info3 rfl (by decide) (by decide) (.slice An cs.length en) cs (c : Int) [.int .i64 (c : Int)] (fun _ => True) (fun _ => False) rfl rfl rfl (fun _ hk => hk.elim) (fun _ _ => trivial) (by rw [← HQN.out]; exact HA.out.cd) (Below.refl _ _) (Nat.le_trans HA.out.st.wb (Nat.le_of_lt (blk_lt HA.out.st.bx))) (by have := HL.out; omega) ?_; intro v1 w1 hR hB hG hat; obtain ⟨A1, c1, hv⟩ := Kd.R_slice hR; obtain ⟨nl, hnl⟩ : ∃ nl, nl = (cs ++ [(c : Int)]).length := ⟨_, rfl⟩; rw [← hnl] at hv; subst hv; clear hnl; have hR1 := Amk hR; have hB1 := Amk hB; have hG1 : Aside0 (wq.grownBy w1 q1.codes.ownBlock) := ⟨by rw [HQN.out]; exact hG⟩; clear hR hB hG hat; have cbr := (HA.out.pushC hR1.out hB1.out hG1.out).st.box; have z1 := (HA.out.grown hB1.out hG1.out (Kd.R_ne HA.out.cd HA.out.st.rd.1 (by decide)) (Kd.R_ne HA.out.cd HA.out.st.pk.1 (by decide)) (Kd.R_ne HA.out.cd HA.out.st.bx (by decide))).pk; have z2 := z1.frozen 11; have z3 := (z1.cell 11).trans (show _ = some (Value.slice An cs.length en) from by rw [← HQN.out]; rfl); have z4 := (HA.out.grown hB1.out hG1.out (Kd.R_ne HA.out.cd HA.out.st.rd.1 (by decide)) (Kd.R_ne HA.out.cd HA.out.st.pk.1 (by decide)) (Kd.R_ne HA.out.cd HA.out.st.bx (by decide))).box; clear z1
              (first | refine hK.out _ _ z4 (fun hHeld => ?_) | refine hK _ _ z4 (fun hHeld => ?_)); try simp only [Lga, Lgz, Lgs, Act.put, Lsa, Lsz, Lss]
              refine tkH 9 ?_ hHeld ?_ ?_; rotate_left; focus (intro w_ hSw; (try dsimp only at hSw); go_simp; (try simp only [hSw]); (try rfl)); rotate_left; try simp only [Lga, Lgz, Lgs, Act.put, Lsa, Lsz, Lss]
              refine tkH 10 ?_ hHeld ?_ ?_; rotate_left; focus (intro w_ hSw; (try dsimp only at hSw); go_simp; (try simp only [hSw]); (try rfl)); rotate_left; try simp only [Lga, Lgz, Lgs, Act.put, Lsa, Lsz, Lss]
              refine wpAnyH_ready (rs := [11]) (by kernel_rfl) (by simp) ?_
              refine AllReadyH.cons rfl (fun K hK => ?_) AllReadyH.nil
              ·
               go_simp
               (first | refine hK.out _ _ cbr (fun hHeld => ?_) | refine hK _ _ cbr (fun hHeld => ?_)); try simp only [Lga, Lgz, Lgs, Act.put, Lsa, Lsz, Lss]
               refine wpAnyH_done (by kernel_rfl) ?_ _
               clear hK K
               go_wp2_with fail
               go_meet
               exact ⟨_, ⟨HA.out.pushC hR1.out hB1.out hG1.out⟩, HK, ⟨by obtain ⟨vN, vC, e⟩ := HE.out; rw [e]; exact ⟨_, _, rfl⟩⟩⟩
          ·
           go_wp2_with (go_at_call 163; refine (HT.out _ HN.out.drew.st.rd HN.out.drew.st.bel).mono ?_; rintro e wq hp; obtain ⟨rfl, hrq, hbq, hkq⟩ := hp.some_; clear hp; have HA := Amk (HN.out.drew.read hrq.out hbq.out hkq.out); have cbq := HA.out.st.box; have cnq := (HA.out.st.cell 11).trans (show _ = some (Value.slice An cs.length en) from by rw [← HQN.out]; rfl); have cnr := ((HA.out.st.alloc (.cells #[.int .i64 (c : Int)] 3)).cell 11).trans (show _ = some (Value.slice An cs.length en) from by rw [← HQN.out]; rfl))
           (first | refine hK.out _ _ cbq (fun hHeld => ?_) | refine hK _ _ cbq (fun hHeld => ?_)); try simp only [Lga, Lgz, Lgs, Act.put, Lsa, Lsz, Lss]
           refine wpAnyH_ready (rs := [4, 7]) (by kernel_rfl) (by simp) ?_
           refine AllReadyH.cons rfl (fun K hK => ?_) (AllReadyH.cons rfl (fun K hK => ?_) AllReadyH.nil)
           ·
            go_simp
            (first | refine hK.out _ _ cbq (fun hHeld => ?_) | refine hK _ _ cbq (fun hHeld => ?_)); try simp only [Lga, Lgz, Lgs, Act.put, Lsa, Lsz, Lss]
            refine wpAnyH_ready (rs := [7]) (by kernel_rfl) (by simp) ?_
            refine AllReadyH.cons rfl (fun K hK => ?_) AllReadyH.nil
            ·
             go_simp
             (first | refine hK.out _ _ (HA.out.st.alloc _).box (fun hHeld => ?_) | refine hK _ _ (HA.out.st.alloc _).box (fun hHeld => ?_)); try simp only [Lga, Lgz, Lgs, Act.put, Lsa, Lsz, Lss]
             refine wpAnyH_ready (rs := [8]) (by kernel_rfl) (by simp) ?_
             refine AllReadyH.cons rfl (fun K hK => ?_) AllReadyH.nil
             ·
              refine Kd.R_append_step (Kd.int .i64) (w0 := wq) w.heap.size rfl (.tmp 130) (.tmp 133) 43 3 (.int .i64 0) 8 rfl Tryz.underlying43 info3 rfl (by decide) (by decide) (.slice An cs.length en) cs (c : Int) [.int .i64 (c : Int)] (fun _ => True) (fun _ => False) rfl rfl rfl (fun _ hk => hk.elim) (fun _ _ => trivial) (by rw [← HQN.out]; exact HA.out.cd) (Below.refl _ _) (Nat.le_trans HA.out.st.wb (Nat.le_of_lt (blk_lt HA.out.st.bx))) (by have := HL.out; omega) ?_; intro v1 w1 hR hB hG hat; obtain ⟨A1, c1, hv⟩ := Kd.R_slice hR; obtain ⟨nl, hnl⟩ : ∃ nl, nl = (cs ++ [(c : Int)]).length := ⟨_, rfl⟩; rw [← hnl] at hv; subst hv; clear hnl; have hR1 := Amk hR; have hB1 := Amk hB; have hG1 : Aside0 (wq.grownBy w1 q1.codes.ownBlock) := ⟨by rw [HQN.out]; exact hG⟩; clear hR hB hG hat; have cbr := (HA.out.pushC hR1.out hB1.out hG1.out).st.box; have z1 := (HA.out.grown hB1.out hG1.out (Kd.R_ne HA.out.cd HA.out.st.rd.1 (by decide)) (Kd.R_ne HA.out.cd HA.out.st.pk.1 (by decide)) (Kd.R_ne HA.out.cd HA.out.st.bx (by decide))).pk; have z2 := z1.frozen 11; have z3 := (z1.cell 11).trans (show _ = some (Value.slice An cs.length en) from by rw [← HQN.out]; rfl); have z4 := (HA.out.grown hB1.out hG1.out (Kd.R_ne HA.out.cd HA.out.st.rd.1 (by decide)) (Kd.R_ne HA.out.cd HA.out.st.pk.1 (by decide)) (Kd.R_ne HA.out.cd HA.out.st.bx (by decide))).box; clear z1
              (first | refine hK.out _ _ z4 (fun hHeld => ?_) | refine hK _ _ z4 (fun hHeld => ?_)); try simp only [Lga, Lgz, Lgs, Act.put, Lsa, Lsz, Lss]
              refine tkH 9 ?_ hHeld ?_ ?_; rotate_left; focus (intro w_ hSw; (try dsimp only at hSw); go_simp; (try simp only [hSw]); (try rfl)); rotate_left; try simp only [Lga, Lgz, Lgs, Act.put, Lsa, Lsz, Lss]
              refine tkH 10 ?_ hHeld ?_ ?_; rotate_left; focus (intro w_ hSw; (try dsimp only at hSw); go_simp; (try simp only [hSw]); (try rfl)); rotate_left; try simp only [Lga, Lgz, Lgs, Act.put, Lsa, Lsz, Lss]
              refine wpAnyH_ready (rs := [11]) (by kernel_rfl) (by simp) ?_
              refine AllReadyH.cons rfl (fun K hK => ?_) AllReadyH.nil
              ·
               go_simp
               (first | refine hK.out _ _ cbr (fun hHeld => ?_) | refine hK _ _ cbr (fun hHeld => ?_)); try simp only [Lga, Lgz, Lgs, Act.put, Lsa, Lsz, Lss]
               refine wpAnyH_done (by kernel_rfl) ?_ _
               clear hK K
               go_wp2_with fail
               go_meet
               exact ⟨_, ⟨HA.out.pushC hR1.out hB1.out hG1.out⟩, HK, ⟨by obtain ⟨vN, vC, e⟩ := HE.out; rw [e]; exact ⟨_, _, rfl⟩⟩⟩
           ·
            go_simp
            (first | refine hK.out _ _ (HA.out.st.alloc _).box (fun hHeld => ?_) | refine hK _ _ (HA.out.st.alloc _).box (fun hHeld => ?_)); try simp only [Lga, Lgz, Lgs, Act.put, Lsa, Lsz, Lss]
            refine wpAnyH_ready (rs := [4]) (by kernel_rfl) (by simp) ?_
            refine AllReadyH.cons rfl (fun K hK => ?_) AllReadyH.nil
            ·
             go_simp
             (first | refine hK.out _ _ (HA.out.st.alloc _).box (fun hHeld => ?_) | refine hK _ _ (HA.out.st.alloc _).box (fun hHeld => ?_)); try simp only [Lga, Lgz, Lgs, Act.put, Lsa, Lsz, Lss]
             refine wpAnyH_ready (rs := [8]) (by kernel_rfl) (by simp) ?_
             refine AllReadyH.cons rfl (fun K hK => ?_) AllReadyH.nil
             ·
              refine Kd.R_append_step (Kd.int .i64) (w0 := wq) w.heap.size rfl (.tmp 130) (.tmp 133) 43 3 (.int .i64 0) 8 rfl Tryz.underlying43 info3 rfl (by decide) (by decide) (.slice An cs.length en) cs (c : Int) [.int .i64 (c : Int)] (fun _ => True) (fun _ => False) rfl rfl rfl (fun _ hk => hk.elim) (fun _ _ => trivial) (by rw [← HQN.out]; exact HA.out.cd) (Below.refl _ _) (Nat.le_trans HA.out.st.wb (Nat.le_of_lt (blk_lt HA.out.st.bx))) (by have := HL.out; omega) ?_; intro v1 w1 hR hB hG hat; obtain ⟨A1, c1, hv⟩ := Kd.R_slice hR; obtain ⟨nl, hnl⟩ : ∃ nl, nl = (cs ++ [(c : Int)]).length := ⟨_, rfl⟩; rw [← hnl] at hv; subst hv; clear hnl; have hR1 := Amk hR; have hB1 := Amk hB; have hG1 : Aside0 (wq.grownBy w1 q1.codes.ownBlock) := ⟨by rw [HQN.out]; exact hG⟩; clear hR hB hG hat; have cbr := (HA.out.pushC hR1.out hB1.out hG1.out).st.box; have z1 := (HA.out.grown hB1.out hG1.out (Kd.R_ne HA.out.cd HA.out.st.rd.1 (by decide)) (Kd.R_ne HA.out.cd HA.out.st.pk.1 (by decide)) (Kd.R_ne HA.out.cd HA.out.st.bx (by decide))).pk; have z2 := z1.frozen 11; have z3 := (z1.cell 11).trans (show _ = some (Value.slice An cs.length en) from by rw [← HQN.out]; rfl); have z4 := (HA.out.grown hB1.out hG1.out (Kd.R_ne HA.out.cd HA.out.st.rd.1 (by decide)) (Kd.R_ne HA.out.cd HA.out.st.pk.1 (by decide)) (Kd.R_ne HA.out.cd HA.out.st.bx (by decide))).box; clear z1
              (first | refine hK.out _ _ z4 (fun hHeld => ?_) | refine hK _ _ z4 (fun hHeld => ?_)); try simp only [Lga, Lgz, Lgs, Act.put, Lsa, Lsz, Lss]
              refine tkH 9 ?_ hHeld ?_ ?_; rotate_left; focus (intro w_ hSw; (try dsimp only at hSw); go_simp; (try simp only [hSw]); (try rfl)); rotate_left; try simp only [Lga, Lgz, Lgs, Act.put, Lsa, Lsz, Lss]
              refine tkH 10 ?_ hHeld ?_ ?_; rotate_left; focus (intro w_ hSw; (try dsimp only at hSw); go_simp; (try simp only [hSw]); (try rfl)); rotate_left; try simp only [Lga, Lgz, Lgs, Act.put, Lsa, Lsz, Lss]
              refine wpAnyH_ready (rs := [11]) (by kernel_rfl) (by simp) ?_
              refine AllReadyH.cons rfl (fun K hK => ?_) AllReadyH.nil
              ·
               go_simp
               (first | refine hK.out _ _ cbr (fun hHeld => ?_) | refine hK _ _ cbr (fun hHeld => ?_)); try simp only [Lga, Lgz, Lgs, Act.put, Lsa, Lsz, Lss]
               refine wpAnyH_done (by kernel_rfl) ?_ _
               clear hK K
               go_wp2_with fail
               go_meet
               exact ⟨_, ⟨HA.out.pushC hR1.out hB1.out hG1.out⟩, HK, ⟨by obtain ⟨vN, vC, e⟩ := HE.out; rw [e]; exact ⟨_, _, rfl⟩⟩⟩
         case rest =>
          clear HK HE HT HQN cnC HN cb c0
          obtain ⟨q2, HC, HK, HE⟩ := hcut
          obtain ⟨wC, rfl⟩ : ∃ W : World, W = wc := ⟨_, rfl⟩
          have cb := HC.out.st.box
          have c0 : wC.cell? ⟨h, 0, none⟩ = some (.int .i64 8) := (HC.out.st.cell 0).trans (by rw [← HK.out]; rfl)
          obtain ⟨A1, e1, hN1, _, _⟩ := Kd.R_reads HC.out.nm
          obtain ⟨A2, e2, hC1, _, _⟩ := Kd.R_reads HC.out.cd
          have c10 : wC.cell? ⟨h, 10, none⟩ = some (.slice A1 (ns ++ [(⟨t.toArray⟩ : ByteArray)]).length e1) := (HC.out.st.cell 10).trans (by rw [← hN1]; rfl)
          have c11 : wC.cell? ⟨h, 11, none⟩ = some (.slice A2 (cs ++ [(c : Int)]).length e2) := (HC.out.st.cell 11).trans (by rw [← hC1]; rfl)
          have HN1 := Amk hN1
          have HC1 := Amk hC1
          clear hN1 hC1
          obtain ⟨ln, hln⟩ : ∃ ln, ln = (ns ++ [(⟨t.toArray⟩ : ByteArray)]).length := ⟨_, rfl⟩
          obtain ⟨lc, hlc⟩ : ∃ lc, lc = (cs ++ [(c : Int)]).length := ⟨_, rfl⟩
          rw [← hln] at c10
          rw [← hlc] at c11
          have HNL := Amk hln
          have HCL := Amk hlc
          clear hln hlc
          have HR5 : Aside0 (r = if ln ≤ 32 ∧ lc ≤ 32 then subLoop true true gi (ns ++ [(⟨t.toArray⟩ : ByteArray)]) (cs ++ [(c : Int)]) l3 else none) := ⟨by rw [HNL.out, HCL.out, HR4.out]⟩
          by_cases h1 : ln ≤ 32
          case neg =>
           have d1 : decide ((ln : Int) ≤ 32) = false := decide_eq_false (by omega)
           have d2 : decide (ln ≤ 32) = false := decide_eq_false h1
           have HO2 : Aside0 (o = none) := ⟨by rw [HO.out, HR5.out, if_neg (fun h => h1 h.1)]; rfl⟩
           clear h1
           go_wp2_with (go_at_call 96; refine (unless_no _).mono ?_; rintro e wz ⟨rfl, rfl⟩)
           exact HC.out.no rfl HO2.out
          case pos =>
           have d1 : decide ((ln : Int) ≤ 32) = true := decide_eq_true (by omega)
           have d2 : decide (ln ≤ 32) = true := decide_eq_true h1
           by_cases h2 : lc ≤ 32
           case neg =>
            have d3 : decide ((lc : Int) ≤ 32) = false := decide_eq_false (by omega)
            have d4 : decide (lc ≤ 32) = false := decide_eq_false h2
            have HO2 : Aside0 (o = none) := ⟨by rw [HO.out, HR5.out, if_neg (fun h => h2 h.2)]; rfl⟩
            clear h1 h2
            go_wp2_with (go_at_call 96; refine (unless_no _).mono ?_; rintro e wz ⟨rfl, rfl⟩)
            exact HC.out.no rfl HO2.out
           case pos =>
            have d3 : decide ((lc : Int) ≤ 32) = true := decide_eq_true (by omega)
            have d4 : decide (lc ≤ 32) = true := decide_eq_true h2
            have HL2 := Amk (And.intro h1 h2)
            clear h1 h2
            go_wp2_with (go_at_call 96; refine (unless_yes _).mono ?_; rintro e wz ⟨rfl, rfl⟩)
            go_roundg gi
            case rel => exact ⟨q2, (ns ++ [(⟨t.toArray⟩ : ByteArray)]), (cs ++ [(c : Int)]), l3, HC, HK, HE, ⟨by have := HLE.out; have := HLN.out; have := HLC.out; simp only [List.length_cons] at *; omega⟩, ⟨by rw [HR5.out, if_pos HL2.out]⟩, ⟨by rw [← HNL.out, ← HCL.out]; exact HL2.out⟩⟩
            case measure => omega
theorem body_sub10 (g h : Nat) (l : List UInt8) (p : Pk) (w0 w : World) (hI : RdAt w0 w g l) (hP : PkAt w0 w h p) (hne : g ≠ h) (hB : Below w0.heap.size w0 w) (hsz : w0.heap.size ≤ w.heap.size) (hnm : p.names = .slice none 0 0) (hcd : p.codes = .slice none 0 0) (hk : p.kind = 10) :
  Calls Tryz.prog 99 #[.pointer (some ⟨g, 0, none⟩), .pointer (some ⟨h, 0, none⟩)] w (SPost w0 w g h p (subF true false 10 l)) := by
 have HS := Amk (St.new hI hP hne hB)
 clear hI hB hP hne
 obtain ⟨o, ho⟩ : ∃ o, o = subF true false 10 l := ⟨_, rfl⟩
 have HO := Amk ho
 rw [← ho]
 clear ho
 have cb := HS.out.box
 have c0 : (w.alloc (.cells #[.pointer (some ⟨h, 0, none⟩)] 148)).cell? ⟨h, 0, none⟩ = some (.int .i64 10) := (HS.out.cell 0).trans (by rw [← hk]; rfl)
 have HSZ := Amk hsz
 have HNM := Amk (And.intro hnm hcd)
 have HPK := Amk hk
 clear hsz hnm hcd hk
 cases hx : idF l with
 | none =>
  have HO2 : Aside0 (o = none) := ⟨by rw [HO.out]; simp [subF, hx]⟩
  have HT : Aside0 (∀ W, RdAt w0 W g l → Below w0.heap.size w0 W → Calls Tryz.prog 165 #[.pointer (some ⟨g, 0, none⟩)] W (RPost w0 W g none)) := ⟨fun W h1 h2 => by have := id_calls g l w0 W h1 h2; rw [hx] at this; exact this⟩
  go_enter Tryz.func99, Tryz.ntmps99
  go_upto_region 22 with (fail)
  refine wp_region_held_drew (S := (fun w' => w'.cell? ⟨w.heap.size, 0, none⟩ = some (.pointer (some ⟨h, 0, none⟩)))) (by kernel_rfl) HS.out.drew.box (fun hHeld => ?_)
  refine wpAnyH_take (i := 0) (v := ?_) rfl (by kernel_rfl) (by kernel_rfl) (by kernel_rfl) (fun _ _ _ h => h) (Or.inl ⟨by rfl, ?_⟩) hHeld ?_; rotate_left; focus (intro w_ hSw; (try dsimp only at hSw); go_simp; (try with_reducible rfl)); rotate_left; try simp only [Act.put, Lsa, Lsz, Lss]
  refine wpAnyH_take (i := 1) (v := ?_) rfl (by kernel_rfl) (by kernel_rfl) (by kernel_rfl) (fun _ _ _ h => h) (Or.inl ⟨by rfl, ?_⟩) hHeld ?_; rotate_left; focus (intro w_ hSw; (try dsimp only at hSw); go_simp; (try with_reducible rfl)); rotate_left; try simp only [Act.put, Lsa, Lsz, Lss]
  refine wpAnyH_ready (rs := [2]) (by kernel_rfl) (by simp) ?_
  refine AllReadyH.cons rfl (fun K hK => ?_) AllReadyH.nil
  go_simp
  go_wp2_with (go_at_call 165; refine (HT.out _ HS.out.drew.rd HS.out.drew.bel).mono ?_; rintro e wq hp; obtain ⟨rfl, hbq, hkq⟩ := hp.none_; clear hp; exact SPost.no HO2.out ⟨rfl, rfl, hbq.out, GH.keep HS.out.drew.kept hkq.out, _, HS.out.drew.pk.keep hkq.out (Ne.symm HS.out.gh)⟩)
 | some x =>
  obtain ⟨n, l2⟩ := x
  have HT : Aside0 (∀ W, RdAt w0 W g l → Below w0.heap.size w0 W → Calls Tryz.prog 165 #[.pointer (some ⟨g, 0, none⟩)] W (RPost w0 W g (numV (some (n, l2))))) := ⟨fun W h1 h2 => by have := id_calls g l w0 W h1 h2; rw [hx] at this; exact this⟩
  have HO2 : Aside0 (o = if l2 = [] then none else (subLoop true false (l2.length + 1) [] [] l2).bind fun (ns, cs) => if cs.any (badI 10) = true then none else some (n, ns, cs)) := ⟨by rw [HO.out]; simp [subF, hx]⟩
  clear HO hx
  go_enter Tryz.func99, Tryz.ntmps99
  go_upto_region 22 with (fail)
  go_region_held3 (fun w' => w'.cell? ⟨w.heap.size, 0, none⟩ = some (.pointer (some ⟨h, 0, none⟩))) (first | exact HS.out.drew.box | exact cbq | exact (HS2.out.set (q := { p with id := n }) 2 (.int .i64 (n : Int)) rfl).box) ((go_at_call 165; refine (HT.out _ HS.out.drew.rd HS.out.drew.bel).mono ?_; rintro e wq hp; obtain ⟨rfl, hrq, hbq, hkq⟩ := hp.some_; clear hp; have HS2 := Amk (HS.out.drew.read hrq.out hbq.out hkq.out); have cbq := HS2.out.box; have zq := HS2.out.frozen 2; have cq := (HS2.out.cell 2).trans (show _ = some (Value.int .i64 p.id) from rfl)))
  have HS3 := Amk (Sub.mk0 (HS2.out.set (q := { p with id := n }) 2 (.int .i64 (n : Int)) rfl) HNM.out.1 HNM.out.2 HSZ.out)
  clear HS HS2 HT cb c0 cbq zq cq hrq hbq hkq
  generalize wq.setCell ⟨h, 2, none⟩ (.int .i64 (n : Int)) = w3 at *
  have cg := HS3.out.st.str
  cases l2 with
  | nil =>
   go_wp2_with (go_at_call 96; refine (unless_no _).mono ?_; rintro e wz ⟨rfl, rfl⟩)
   exact HS3.out.no rfl (HO2.out.trans (by simp))
  | cons y0 l8 =>
   have hl : (y0 :: l8).isEmpty = false := rfl
   obtain ⟨r, hr⟩ : ∃ r, r = subLoop true false ((y0 :: l8).length + 1) [] [] (y0 :: l8) := ⟨_, rfl⟩
   have HR0 := Amk hr.symm
   have HO : Aside0 (o = r.bind fun (ns, cs) => if cs.any (badI 10) = true then none else some (n, ns, cs)) := ⟨by rw [HO2.out, if_neg (by simp), hr]⟩
   clear HO2 hr
   go_wp2_with (go_at_call 96; refine (unless_yes _).mono ?_; rintro e wz ⟨rfl, rfl⟩)
   go_loopg [] ((y0 :: l8).length + 1) (fun kq wr => ∃ q ns cs l', Aside0 (Sub w0 w g h w.heap.size q l' wr ns cs) ∧ Aside0 (q.kind = 10) ∧ Aside0 (∃ vN vC, q = { p with id := n, names := vN, codes := vC }) ∧ Aside0 (l'.length + 1 ≤ kq) ∧ Aside0 (subLoop true false kq ns cs l' = r) ∧ Aside0 (ns.length ≤ 32 ∧ cs.length ≤ 32))
   case atStart => exact ⟨_, _, _, _, HS3, HPK, ⟨_, _, rfl⟩, ⟨Nat.le_refl _⟩, HR0, ⟨by decide⟩⟩
   case round =>
    obtain ⟨q, ns, cs, l', HQ, HK, HE, HLE, HR, HL⟩ := hrel
    clear HS3 HR0 cg hl
    cases gk with
    | zero => exact absurd HLE.out (by omega)
    | succ gi =>
     cases l' with
     | nil =>
      have HR2 : Aside0 (r = some (ns, cs)) := ⟨by rw [← HR.out, subLoop, if_pos rfl]⟩
      clear HR
      have cb := HQ.out.st.box
      have cg := HQ.out.st.str
      have c0 : wr.cell? ⟨h, 0, none⟩ = some (.int .i64 10) := (HQ.out.st.cell 0).trans (by rw [← HK.out]; rfl)
      obtain ⟨A2, e2, hC1, _, hCC⟩ := Kd.R_reads HQ.out.cd
      have c11 : wr.cell? ⟨h, 11, none⟩ = some (.slice A2 cs.length e2) := (HQ.out.st.cell 11).trans (by rw [← hC1]; rfl)
      have HCT := Amk (containsI 10 w.heap.size h cs A2 e2 wr cb c0 hCC (by have := HL.out; omega))
      clear hC1 hCC
      have hmf : ∀ (fn : Fn) (first cap : Array Value) (w : World), (Instr.makeFunc fn first cap).run Tryz.prog w = .ok (.func fn first cap) w := fun _ _ _ _ => rfl
      obtain ⟨bd, hbd⟩ : ∃ bd, bd = cs.any (badI 10) := ⟨_, rfl⟩
      rw [← hbd] at HCT
      have HBD := Amk hbd
      clear hbd
      cases bd
      ·
       have HO2 : Aside0 (o = some (n, ns, cs)) := ⟨by rw [HO.out, HR2.out]; simp only [Option.bind_some]; rw [← HBD.out]; rfl⟩
       go_wp2_with (first | (go_at_call 167; refine HCT.out.mono ?_; rintro e wz ⟨rfl, rfl⟩) | (go_at_call 96; refine (unless_yes _).mono ?_; rintro e wz ⟨rfl, rfl⟩))
       go_end0
       obtain ⟨vN, vC, rfl⟩ := HE.out
       exact HQ.out.yes HO2.out
      ·
       have HO2 : Aside0 (o = none) := ⟨by rw [HO.out, HR2.out]; simp only [Option.bind_some]; rw [← HBD.out]; rfl⟩
       go_wp2_with (first | (go_at_call 167; refine HCT.out.mono ?_; rintro e wz ⟨rfl, rfl⟩) | (go_at_call 96; refine (unless_no _).mono ?_; rintro e wz ⟨rfl, rfl⟩))
       exact HQ.out.no rfl HO2.out
     | cons y l9 =>
      have hl : (y :: l9).isEmpty = false := rfl
      have cb := HQ.out.st.box
      have c0 : wr.cell? ⟨h, 0, none⟩ = some (.int .i64 10) := (HQ.out.st.cell 0).trans (by rw [← HK.out]; rfl)
      have cg := HQ.out.st.str
      have HR2 : Aside0 (r = (subN true ns (y :: l9)).bind fun (ns, l) => (subC false cs l).bind fun (cs, l) => if ns.length ≤ 32 ∧ cs.length ≤ 32 then subLoop true false gi ns cs l else none) := ⟨by rw [← HR.out, subLoop]; rw [if_neg (by simp)]⟩
      clear HR
      obtain ⟨An, en, hqn, _, _⟩ := Kd.R_reads HQ.out.nm
      have HQN := Amk hqn
      clear hqn
      have cnN : wr.cell? ⟨h, 10, none⟩ = some (Value.slice An ns.length en) := (HQ.out.st.cell 10).trans (by rw [← HQN.out]; rfl)
      cases hN : textF (y :: l9) with
      | none =>
       have HO2 : Aside0 (o = none) := ⟨by rw [HO.out, HR2.out]; simp [subN, subC, hN]⟩
       have HT : Aside0 (∀ W, RdAt w0 W g (y :: l9) → Below w0.heap.size w0 W → Calls Tryz.prog 164 #[.pointer (some ⟨g, 0, none⟩)] W (RPost w0 W g none)) := ⟨fun W h1 h2 => by have := text_calls g (y :: l9) w0 W h1 h2; rw [hN] at this; exact this⟩
       go_upto_region 26 with (fail)
       refine wp_region_held_drew (S := (fun w' => w'.cell? ⟨w.heap.size, 0, none⟩ = some (.pointer (some ⟨h, 0, none⟩)))) (by kernel_rfl) HQ.out.drew.st.box (fun hHeld => ?_)
       refine wpAnyH_take (i := 0) (v := ?_) rfl (by kernel_rfl) (by kernel_rfl) (by kernel_rfl) (fun _ _ _ h => h) (Or.inl ⟨by rfl, ?_⟩) hHeld ?_; rotate_left; focus (intro w_ hSw; (try dsimp only at hSw); go_simp; (try with_reducible rfl)); rotate_left; try simp only [Act.put, Lsa, Lsz, Lss]
       refine wpAnyH_take (i := 1) (v := ?_) rfl (by kernel_rfl) (by kernel_rfl) (by kernel_rfl) (fun _ _ _ h => h) (Or.inl ⟨by rfl, ?_⟩) hHeld ?_; rotate_left; focus (intro w_ hSw; (try dsimp only at hSw); go_simp; (try with_reducible rfl)); rotate_left; try simp only [Act.put, Lsa, Lsz, Lss]
       refine wpAnyH_take (i := 2) (v := ?_) rfl (by kernel_rfl) (by kernel_rfl) (by kernel_rfl) (fun _ _ _ h => h) (Or.inl ⟨by rfl, ?_⟩) hHeld ?_; rotate_left; focus (intro w_ hSw; (try dsimp only at hSw); go_simp; (try with_reducible rfl)); rotate_left; try simp only [Act.put, Lsa, Lsz, Lss]
       refine wpAnyH_take (i := 3) (v := ?_) rfl (by kernel_rfl) (by kernel_rfl) (by kernel_rfl) (fun _ _ _ h => h) (Or.inl ⟨by rfl, ?_⟩) hHeld ?_; rotate_left; focus (intro w_ hSw; (try dsimp only at hSw); go_simp; (try with_reducible rfl)); rotate_left; try simp only [Act.put, Lsa, Lsz, Lss]
       refine wpAnyH_take (i := 5) (v := ?_) rfl (by kernel_rfl) (by kernel_rfl) (by kernel_rfl) (fun _ _ _ h => h) (Or.inl ⟨by rfl, ?_⟩) hHeld ?_; rotate_left; focus (intro w_ hSw; (try dsimp only at hSw); go_simp; (try with_reducible rfl)); rotate_left; try simp only [Act.put, Lsa, Lsz, Lss]
       refine wpAnyH_ready (rs := [4, 6]) (by kernel_rfl) (by simp) ?_
       refine AllReadyH.cons rfl (fun K hK => ?_) (AllReadyH.cons rfl (fun K hK => ?_) AllReadyH.nil)
       ·
        go_simp
        refine hK.out _ _ hHeld (fun hHeld => ?_)
        clear hK K
        try simp only [Act.put, Lsa, Lsz, Lss]
        refine wpAnyH_ready (rs := [6]) (by kernel_rfl) (by simp) ?_
        refine AllReadyH.cons rfl (fun K hK => ?_) AllReadyH.nil
        go_simp
        go_wp2_with (go_at_call 164; refine (HT.out _ HQ.out.drew.st.rd HQ.out.drew.st.bel).mono ?_; rintro e wq hp; obtain ⟨rfl, hbq, hkq⟩ := hp.none_; clear hp; exact SPost.no HO2.out ⟨rfl, rfl, hbq.out, GH.keep HQ.out.drew.st.kept hkq.out, _, HQ.out.drew.st.pk.keep hkq.out (Ne.symm HQ.out.st.gh)⟩)
       ·
        go_simp
        go_wp2_with (go_at_call 164; refine (HT.out _ HQ.out.drew.st.rd HQ.out.drew.st.bel).mono ?_; rintro e wq hp; obtain ⟨rfl, hbq, hkq⟩ := hp.none_; clear hp; exact SPost.no HO2.out ⟨rfl, rfl, hbq.out, GH.keep HQ.out.drew.st.kept hkq.out, _, HQ.out.drew.st.pk.keep hkq.out (Ne.symm HQ.out.st.gh)⟩)
      | some x =>
       obtain ⟨t, l2⟩ := x
       have HLN := Amk (textF_len hN)
       have HR3 : Aside0 (r = (subC false cs l2).bind fun (cs, l) => if (ns ++ [(⟨t.toArray⟩ : ByteArray)]).length ≤ 32 ∧ cs.length ≤ 32 then subLoop true false gi (ns ++ [(⟨t.toArray⟩ : ByteArray)]) cs l else none) := ⟨by rw [HR2.out]; simp [subN, hN]⟩
       have HT : Aside0 (∀ W, RdAt w0 W g (y :: l9) → Below w0.heap.size w0 W → Calls Tryz.prog 164 #[.pointer (some ⟨g, 0, none⟩)] W (RPost w0 W g (textV (some (t, l2))))) := ⟨fun W h1 h2 => by have := text_calls g (y :: l9) w0 W h1 h2; rw [hN] at this; exact this⟩
       clear HR2 hN
       go_upto_region 26 with (fail)
       go_cut [] (fun wx => ∃ q', Aside0 (Sub w0 w g h w.heap.size q' l2 wx (ns ++ [(⟨t.toArray⟩ : ByteArray)]) cs) ∧ Aside0 (q'.kind = 10) ∧ Aside0 (∃ vN vC, q' = { p with id := n, names := vN, codes := vC }))
       case first =>
        refine wp_region_held_drew (S := (fun w' => w'.cell? ⟨w.heap.size, 0, none⟩ = some (.pointer (some ⟨h, 0, none⟩)))) (by kernel_rfl) (by first | exact HQ.out.drew.st.box | exact HQ.out.st.box) (fun hHeld => ?_)
        refine tkH 0 ?_ hHeld ?_ ?_; rotate_left; focus (intro w_ hSw; (try dsimp only at hSw); go_simp; (try simp only [hSw]); (try rfl)); rotate_left; try simp only [Lga, Lgz, Lgs, Act.put, Lsa, Lsz, Lss]
        refine tkH 1 ?_ hHeld ?_ ?_; rotate_left; focus (intro w_ hSw; (try dsimp only at hSw); go_simp; (try simp only [hSw]); (try rfl)); rotate_left; try simp only [Lga, Lgz, Lgs, Act.put, Lsa, Lsz, Lss]
        refine tkH 2 ?_ hHeld ?_ ?_; rotate_left; focus (intro w_ hSw; (try dsimp only at hSw); go_simp; (try simp only [hSw]); (try rfl)); rotate_left; try simp only [Lga, Lgz, Lgs, Act.put, Lsa, Lsz, Lss]
        refine tkH 3 ?_ hHeld ?_ ?_; rotate_left; focus (intro w_ hSw; (try dsimp only at hSw); go_simp; (try simp only [hSw]); (try rfl)); rotate_left; try simp only [Lga, Lgz, Lgs, Act.put, Lsa, Lsz, Lss]
        refine tkH 5 ?_ hHeld ?_ ?_; rotate_left; focus (intro w_ hSw; (try dsimp only at hSw); go_simp; (try simp only [hSw]); (try rfl)); rotate_left; try simp only [Lga, Lgz, Lgs, Act.put, Lsa, Lsz, Lss]
        refine wpAnyH_ready (rs := [4, 6]) (by kernel_rfl) (by simp) ?_
        refine AllReadyH.cons rfl (fun K hK => ?_) (AllReadyH.cons rfl (fun K hK => ?_) AllReadyH.nil)
        ·
         go_simp
         (first | refine hK.out _ _ HQ.out.drew.st.box (fun hHeld => ?_) | refine hK _ _ HQ.out.drew.st.box (fun hHeld => ?_)); try simp only [Lga, Lgz, Lgs, Act.put, Lsa, Lsz, Lss]
         refine wpAnyH_ready (rs := [6]) (by kernel_rfl) (by simp) ?_
         refine AllReadyH.cons rfl (fun K hK => ?_) AllReadyH.nil
         ·
          go_wp2_with (go_at_call 164; refine (HT.out _ HQ.out.drew.st.rd HQ.out.drew.st.bel).mono ?_; rintro e wq hp; obtain ⟨rfl, hrq, hbq, hkq⟩ := hp.some_; clear hp; have HA := Amk (HQ.out.drew.read hrq.out hbq.out hkq.out); have cbq := HA.out.st.box; have cnq := (HA.out.st.cell 10).trans (show _ = some (Value.slice An ns.length en) from by rw [← HQN.out]; rfl); have cnr := ((HA.out.st.alloc (.cells #[.string ⟨t.toArray⟩] 9)).cell 10).trans (show _ = some (Value.slice An ns.length en) from by rw [← HQN.out]; rfl))
          (first | refine hK.out _ _ cbq (fun hHeld => ?_) | refine hK _ _ cbq (fun hHeld => ?_)); try simp only [Lga, Lgz, Lgs, Act.put, Lsa, Lsz, Lss]
          refine wpAnyH_ready (rs := [7]) (by kernel_rfl) (by simp) ?_
          refine AllReadyH.cons rfl (fun K hK => ?_) AllReadyH.nil
          ·
           go_simp
           (first | refine hK.out _ _ (HA.out.st.alloc _).box (fun hHeld => ?_) | refine hK _ _ (HA.out.st.alloc _).box (fun hHeld => ?_)); try simp only [Lga, Lgz, Lgs, Act.put, Lsa, Lsz, Lss]
           refine wpAnyH_ready (rs := [8]) (by kernel_rfl) (by simp) ?_
           refine AllReadyH.cons rfl (fun K hK => ?_) AllReadyH.nil
           ·
            refine Kd.R_append_step Kd.string (w0 := wq) w.heap.size rfl (.tmp 114) (.tmp 117) 37 9 (.string ⟨#[]⟩) 16 rfl Tryz.underlying37 Go.Proofs.YtednegmjjjdinaaGreatDoor.K.info9 rfl (by decide) (by decide) (.slice An ns.length en) ns (⟨t.toArray⟩ : ByteArray) [.string ⟨t.toArray⟩] (fun _ => True) (fun _ => False) rfl rfl rfl (fun _ hk => hk.elim) (fun _ _ => trivial) (by rw [← HQN.out]; exact HA.out.nm) (Below.refl _ _) (Nat.le_trans HA.out.st.wb (Nat.le_of_lt (blk_lt HA.out.st.bx))) (by have := HL.out; omega) ?_; intro v1 w1 hR hB hG hat; obtain ⟨A1, c1, hv⟩ := Kd.R_slice hR; obtain ⟨nl, hnl⟩ : ∃ nl, nl = (ns ++ [(⟨t.toArray⟩ : ByteArray)]).length := ⟨_, rfl⟩; rw [← hnl] at hv; subst hv; clear hnl; have hR1 := Amk hR; have hB1 := Amk hB; have hG1 : Aside0 (wq.grownBy w1 q.names.ownBlock) := ⟨by rw [HQN.out]; exact hG⟩; clear hR hB hG hat; have cbr := (HA.out.pushN hR1.out hB1.out hG1.out).st.box; have z1 := (HA.out.grown hB1.out hG1.out (Kd.R_ne HA.out.nm HA.out.st.rd.1 (by decide)) (Kd.R_ne HA.out.nm HA.out.st.pk.1 (by decide)) (Kd.R_ne HA.out.nm HA.out.st.bx (by decide))).pk; have z2 := z1.frozen 10; have z3 := (z1.cell 10).trans (show _ = some (Value.slice An ns.length en) from by rw [← HQN.out]; rfl); have z4 := (HA.out.grown hB1.out hG1.out (Kd.R_ne HA.out.nm HA.out.st.rd.1 (by decide)) (Kd.R_ne HA.out.nm HA.out.st.pk.1 (by decide)) (Kd.R_ne HA.out.nm HA.out.st.bx (by decide))).box; clear z1
            (first | refine hK.out _ _ z4 (fun hHeld => ?_) | refine hK _ _ z4 (fun hHeld => ?_)); try simp only [Lga, Lgz, Lgs, Act.put, Lsa, Lsz, Lss]
            refine tkH 9 ?_ hHeld ?_ ?_; rotate_left; focus (intro w_ hSw; (try dsimp only at hSw); go_simp; (try simp only [hSw]); (try rfl)); rotate_left; try simp only [Lga, Lgz, Lgs, Act.put, Lsa, Lsz, Lss]
            refine tkH 10 ?_ hHeld ?_ ?_; rotate_left; focus (intro w_ hSw; (try dsimp only at hSw); go_simp; (try simp only [hSw]); (try rfl)); rotate_left; try simp only [Lga, Lgz, Lgs, Act.put, Lsa, Lsz, Lss]
            refine wpAnyH_ready (rs := [11]) (by kernel_rfl) (by simp) ?_
            refine AllReadyH.cons rfl (fun K hK => ?_) AllReadyH.nil
            ·
             go_simp
             (first | refine hK.out _ _ cbr (fun hHeld => ?_) | refine hK _ _ cbr (fun hHeld => ?_)); try simp only [Lga, Lgz, Lgs, Act.put, Lsa, Lsz, Lss]
             refine wpAnyH_done (by kernel_rfl) ?_ _
             clear hK K
             go_wp2_with fail
             go_meet
             exact ⟨_, ⟨HA.out.pushN hR1.out hB1.out hG1.out⟩, HK, ⟨by obtain ⟨vN, vC, e⟩ := HE.out; rw [e]; exact ⟨_, _, rfl⟩⟩⟩
        ·
         go_wp2_with (go_at_call 164; refine (HT.out _ HQ.out.drew.st.rd HQ.out.drew.st.bel).mono ?_; rintro e wq hp; obtain ⟨rfl, hrq, hbq, hkq⟩ := hp.some_; clear hp; have HA := Amk (HQ.out.drew.read hrq.out hbq.out hkq.out); have cbq := HA.out.st.box; have cnq := (HA.out.st.cell 10).trans (show _ = some (Value.slice An ns.length en) from by rw [← HQN.out]; rfl); have cnr := ((HA.out.st.alloc (.cells #[.string ⟨t.toArray⟩] 9)).cell 10).trans (show _ = some (Value.slice An ns.length en) from by rw [← HQN.out]; rfl))
         (first | refine hK.out _ _ cbq (fun hHeld => ?_) | refine hK _ _ cbq (fun hHeld => ?_)); try simp only [Lga, Lgz, Lgs, Act.put, Lsa, Lsz, Lss]
         refine wpAnyH_ready (rs := [4, 7]) (by kernel_rfl) (by simp) ?_
         refine AllReadyH.cons rfl (fun K hK => ?_) (AllReadyH.cons rfl (fun K hK => ?_) AllReadyH.nil)
         ·
          go_simp
          (first | refine hK.out _ _ cbq (fun hHeld => ?_) | refine hK _ _ cbq (fun hHeld => ?_)); try simp only [Lga, Lgz, Lgs, Act.put, Lsa, Lsz, Lss]
          refine wpAnyH_ready (rs := [7]) (by kernel_rfl) (by simp) ?_
          refine AllReadyH.cons rfl (fun K hK => ?_) AllReadyH.nil
          ·
           go_simp
           (first | refine hK.out _ _ (HA.out.st.alloc _).box (fun hHeld => ?_) | refine hK _ _ (HA.out.st.alloc _).box (fun hHeld => ?_)); try simp only [Lga, Lgz, Lgs, Act.put, Lsa, Lsz, Lss]
           refine wpAnyH_ready (rs := [8]) (by kernel_rfl) (by simp) ?_
           refine AllReadyH.cons rfl (fun K hK => ?_) AllReadyH.nil
           ·
            refine Kd.R_append_step Kd.string (w0 := wq) w.heap.size rfl (.tmp 114) (.tmp 117) 37 9 (.string ⟨#[]⟩) 16 rfl Tryz.underlying37 Go.Proofs.YtednegmjjjdinaaGreatDoor.K.info9 rfl (by decide) (by decide) (.slice An ns.length en) ns (⟨t.toArray⟩ : ByteArray) [.string ⟨t.toArray⟩] (fun _ => True) (fun _ => False) rfl rfl rfl (fun _ hk => hk.elim) (fun _ _ => trivial) (by rw [← HQN.out]; exact HA.out.nm) (Below.refl _ _) (Nat.le_trans HA.out.st.wb (Nat.le_of_lt (blk_lt HA.out.st.bx))) (by have := HL.out; omega) ?_; intro v1 w1 hR hB hG hat; obtain ⟨A1, c1, hv⟩ := Kd.R_slice hR; obtain ⟨nl, hnl⟩ : ∃ nl, nl = (ns ++ [(⟨t.toArray⟩ : ByteArray)]).length := ⟨_, rfl⟩; rw [← hnl] at hv; subst hv; clear hnl; have hR1 := Amk hR; have hB1 := Amk hB; have hG1 : Aside0 (wq.grownBy w1 q.names.ownBlock) := ⟨by rw [HQN.out]; exact hG⟩; clear hR hB hG hat; have cbr := (HA.out.pushN hR1.out hB1.out hG1.out).st.box; have z1 := (HA.out.grown hB1.out hG1.out (Kd.R_ne HA.out.nm HA.out.st.rd.1 (by decide)) (Kd.R_ne HA.out.nm HA.out.st.pk.1 (by decide)) (Kd.R_ne HA.out.nm HA.out.st.bx (by decide))).pk; have z2 := z1.frozen 10; have z3 := (z1.cell 10).trans (show _ = some (Value.slice An ns.length en) from by rw [← HQN.out]; rfl); have z4 := (HA.out.grown hB1.out hG1.out (Kd.R_ne HA.out.nm HA.out.st.rd.1 (by decide)) (Kd.R_ne HA.out.nm HA.out.st.pk.1 (by decide)) (Kd.R_ne HA.out.nm HA.out.st.bx (by decide))).box; clear z1
            (first | refine hK.out _ _ z4 (fun hHeld => ?_) | refine hK _ _ z4 (fun hHeld => ?_)); try simp only [Lga, Lgz, Lgs, Act.put, Lsa, Lsz, Lss]
            refine tkH 9 ?_ hHeld ?_ ?_; rotate_left; focus (intro w_ hSw; (try dsimp only at hSw); go_simp; (try simp only [hSw]); (try rfl)); rotate_left; try simp only [Lga, Lgz, Lgs, Act.put, Lsa, Lsz, Lss]
            refine tkH 10 ?_ hHeld ?_ ?_; rotate_left; focus (intro w_ hSw; (try dsimp only at hSw); go_simp; (try simp only [hSw]); (try rfl)); rotate_left; try simp only [Lga, Lgz, Lgs, Act.put, Lsa, Lsz, Lss]
            refine wpAnyH_ready (rs := [11]) (by kernel_rfl) (by simp) ?_
            refine AllReadyH.cons rfl (fun K hK => ?_) AllReadyH.nil
            ·
             go_simp
             (first | refine hK.out _ _ cbr (fun hHeld => ?_) | refine hK _ _ cbr (fun hHeld => ?_)); try simp only [Lga, Lgz, Lgs, Act.put, Lsa, Lsz, Lss]
             refine wpAnyH_done (by kernel_rfl) ?_ _
             clear hK K
             go_wp2_with fail
             go_meet
             exact ⟨_, ⟨HA.out.pushN hR1.out hB1.out hG1.out⟩, HK, ⟨by obtain ⟨vN, vC, e⟩ := HE.out; rw [e]; exact ⟨_, _, rfl⟩⟩⟩
         ·
          go_simp
          (first | refine hK.out _ _ (HA.out.st.alloc _).box (fun hHeld => ?_) | refine hK _ _ (HA.out.st.alloc _).box (fun hHeld => ?_)); try simp only [Lga, Lgz, Lgs, Act.put, Lsa, Lsz, Lss]
          refine wpAnyH_ready (rs := [4]) (by kernel_rfl) (by simp) ?_
          refine AllReadyH.cons rfl (fun K hK => ?_) AllReadyH.nil
          ·
           go_simp
           (first | refine hK.out _ _ (HA.out.st.alloc _).box (fun hHeld => ?_) | refine hK _ _ (HA.out.st.alloc _).box (fun hHeld => ?_)); try simp only [Lga, Lgz, Lgs, Act.put, Lsa, Lsz, Lss]
           refine wpAnyH_ready (rs := [8]) (by kernel_rfl) (by simp) ?_
           refine AllReadyH.cons rfl (fun K hK => ?_) AllReadyH.nil
           ·
            refine Kd.R_append_step Kd.string (w0 := wq) w.heap.size rfl (.tmp 114) (.tmp 117) 37 9 (.string ⟨#[]⟩) 16 rfl Tryz.underlying37 Go.Proofs.YtednegmjjjdinaaGreatDoor.K.info9 rfl (by decide) (by decide) (.slice An ns.length en) ns (⟨t.toArray⟩ : ByteArray) [.string ⟨t.toArray⟩] (fun _ => True) (fun _ => False) rfl rfl rfl (fun _ hk => hk.elim) (fun _ _ => trivial) (by rw [← HQN.out]; exact HA.out.nm) (Below.refl _ _) (Nat.le_trans HA.out.st.wb (Nat.le_of_lt (blk_lt HA.out.st.bx))) (by have := HL.out; omega) ?_; intro v1 w1 hR hB hG hat; obtain ⟨A1, c1, hv⟩ := Kd.R_slice hR; obtain ⟨nl, hnl⟩ : ∃ nl, nl = (ns ++ [(⟨t.toArray⟩ : ByteArray)]).length := ⟨_, rfl⟩; rw [← hnl] at hv; subst hv; clear hnl; have hR1 := Amk hR; have hB1 := Amk hB; have hG1 : Aside0 (wq.grownBy w1 q.names.ownBlock) := ⟨by rw [HQN.out]; exact hG⟩; clear hR hB hG hat; have cbr := (HA.out.pushN hR1.out hB1.out hG1.out).st.box; have z1 := (HA.out.grown hB1.out hG1.out (Kd.R_ne HA.out.nm HA.out.st.rd.1 (by decide)) (Kd.R_ne HA.out.nm HA.out.st.pk.1 (by decide)) (Kd.R_ne HA.out.nm HA.out.st.bx (by decide))).pk; have z2 := z1.frozen 10; have z3 := (z1.cell 10).trans (show _ = some (Value.slice An ns.length en) from by rw [← HQN.out]; rfl); have z4 := (HA.out.grown hB1.out hG1.out (Kd.R_ne HA.out.nm HA.out.st.rd.1 (by decide)) (Kd.R_ne HA.out.nm HA.out.st.pk.1 (by decide)) (Kd.R_ne HA.out.nm HA.out.st.bx (by decide))).box; clear z1
            (first | refine hK.out _ _ z4 (fun hHeld => ?_) | refine hK _ _ z4 (fun hHeld => ?_)); try simp only [Lga, Lgz, Lgs, Act.put, Lsa, Lsz, Lss]
            refine tkH 9 ?_ hHeld ?_ ?_; rotate_left; focus (intro w_ hSw; (try dsimp only at hSw); go_simp; (try simp only [hSw]); (try rfl)); rotate_left; try simp only [Lga, Lgz, Lgs, Act.put, Lsa, Lsz, Lss]
            refine tkH 10 ?_ hHeld ?_ ?_; rotate_left; focus (intro w_ hSw; (try dsimp only at hSw); go_simp; (try simp only [hSw]); (try rfl)); rotate_left; try simp only [Lga, Lgz, Lgs, Act.put, Lsa, Lsz, Lss]
            refine wpAnyH_ready (rs := [11]) (by kernel_rfl) (by simp) ?_
            refine AllReadyH.cons rfl (fun K hK => ?_) AllReadyH.nil
            ·
             go_simp
             (first | refine hK.out _ _ cbr (fun hHeld => ?_) | refine hK _ _ cbr (fun hHeld => ?_)); try simp only [Lga, Lgz, Lgs, Act.put, Lsa, Lsz, Lss]
             refine wpAnyH_done (by kernel_rfl) ?_ _
             clear hK K
             go_wp2_with fail
             go_meet
             exact ⟨_, ⟨HA.out.pushN hR1.out hB1.out hG1.out⟩, HK, ⟨by obtain ⟨vN, vC, e⟩ := HE.out; rw [e]; exact ⟨_, _, rfl⟩⟩⟩
       case rest =>
        clear HK HE HT HQN cnN HQ cb c0 cg
        obtain ⟨q1, HN, HK, HE⟩ := hcut
        obtain ⟨wN, rfl⟩ : ∃ W : World, W = wc := ⟨_, rfl⟩
        have cb := HN.out.st.box
        have c0 : wN.cell? ⟨h, 0, none⟩ = some (.int .i64 10) := (HN.out.st.cell 0).trans (by rw [← HK.out]; rfl)
        obtain ⟨A1, e1, hN1, _, _⟩ := Kd.R_reads HN.out.nm
        obtain ⟨A2, e2, hC1, _, _⟩ := Kd.R_reads HN.out.cd
        have c10 : wN.cell? ⟨h, 10, none⟩ = some (.slice A1 (ns ++ [(⟨t.toArray⟩ : ByteArray)]).length e1) := (HN.out.st.cell 10).trans (by rw [← hN1]; rfl)
        have c11 : wN.cell? ⟨h, 11, none⟩ = some (.slice A2 cs.length e2) := (HN.out.st.cell 11).trans (by rw [← hC1]; rfl)
        have HN1 := Amk hN1
        have HC1 := Amk hC1
        clear hN1 hC1
        obtain ⟨ln, hln⟩ : ∃ ln, ln = (ns ++ [(⟨t.toArray⟩ : ByteArray)]).length := ⟨_, rfl⟩
        obtain ⟨lc, hlc⟩ : ∃ lc, lc = cs.length := ⟨_, rfl⟩
        rw [← hln] at c10
        rw [← hlc] at c11
        have HNL := Amk hln
        have HCL := Amk hlc
        clear hln hlc
        have HR5 : Aside0 (r = if ln ≤ 32 ∧ lc ≤ 32 then subLoop true false gi (ns ++ [(⟨t.toArray⟩ : ByteArray)]) cs l2 else none) := ⟨by rw [HNL.out, HCL.out, HR3.out]; rfl⟩
        by_cases h1 : ln ≤ 32
        case neg =>
         have d1 : decide ((ln : Int) ≤ 32) = false := decide_eq_false (by omega)
         have d2 : decide (ln ≤ 32) = false := decide_eq_false h1
         have HO2 : Aside0 (o = none) := ⟨by rw [HO.out, HR5.out, if_neg (fun h => h1 h.1)]; rfl⟩
         clear h1
         go_wp2_with (go_at_call 96; refine (unless_no _).mono ?_; rintro e wz ⟨rfl, rfl⟩)
         exact HN.out.no rfl HO2.out
        case pos =>
         have d1 : decide ((ln : Int) ≤ 32) = true := decide_eq_true (by omega)
         have d2 : decide (ln ≤ 32) = true := decide_eq_true h1
         by_cases h2 : lc ≤ 32
         case neg =>
          have d3 : decide ((lc : Int) ≤ 32) = false := decide_eq_false (by omega)
          have d4 : decide (lc ≤ 32) = false := decide_eq_false h2
          have HO2 : Aside0 (o = none) := ⟨by rw [HO.out, HR5.out, if_neg (fun h => h2 h.2)]; rfl⟩
          clear h1 h2
          go_wp2_with (go_at_call 96; refine (unless_no _).mono ?_; rintro e wz ⟨rfl, rfl⟩)
          exact HN.out.no rfl HO2.out
         case pos =>
          have d3 : decide ((lc : Int) ≤ 32) = true := decide_eq_true (by omega)
          have d4 : decide (lc ≤ 32) = true := decide_eq_true h2
          have HL2 := Amk (And.intro h1 h2)
          clear h1 h2
          go_wp2_with (go_at_call 96; refine (unless_yes _).mono ?_; rintro e wz ⟨rfl, rfl⟩)
          go_roundg gi
          case rel => exact ⟨q1, (ns ++ [(⟨t.toArray⟩ : ByteArray)]), cs, l2, HN, HK, HE, ⟨by have := HLE.out; have := HLN.out; simp only [List.length_cons] at *; omega⟩, ⟨by rw [HR5.out, if_pos HL2.out]⟩, ⟨by rw [← HNL.out, ← HCL.out]; exact HL2.out⟩⟩
          case measure => omega
theorem body_sub9 (g h : Nat) (l : List UInt8) (p : Pk) (w0 w : World) (hI : RdAt w0 w g l) (hP : PkAt w0 w h p) (hne : g ≠ h) (hB : Below w0.heap.size w0 w) (hsz : w0.heap.size ≤ w.heap.size) (hnm : p.names = .slice none 0 0) (hcd : p.codes = .slice none 0 0) (hk : p.kind = 9) :
  Calls Tryz.prog 99 #[.pointer (some ⟨g, 0, none⟩), .pointer (some ⟨h, 0, none⟩)] w (SPost w0 w g h p (subF false true 9 l)) := by
 have HS := Amk (St.new hI hP hne hB)
 clear hI hB hP hne
 obtain ⟨o, ho⟩ : ∃ o, o = subF false true 9 l := ⟨_, rfl⟩
 have HO := Amk ho
 rw [← ho]
 clear ho
 have cb := HS.out.box
 have c0 : (w.alloc (.cells #[.pointer (some ⟨h, 0, none⟩)] 148)).cell? ⟨h, 0, none⟩ = some (.int .i64 9) := (HS.out.cell 0).trans (by rw [← hk]; rfl)
 have HSZ := Amk hsz
 have HNM := Amk (And.intro hnm hcd)
 have HPK := Amk hk
 clear hsz hnm hcd hk
 cases hx : idF l with
 | none =>
  have HO2 : Aside0 (o = none) := ⟨by rw [HO.out]; simp [subF, hx]⟩
  have HT : Aside0 (∀ W, RdAt w0 W g l → Below w0.heap.size w0 W → Calls Tryz.prog 165 #[.pointer (some ⟨g, 0, none⟩)] W (RPost w0 W g none)) := ⟨fun W h1 h2 => by have := id_calls g l w0 W h1 h2; rw [hx] at this; exact this⟩
  go_enter Tryz.func99, Tryz.ntmps99
  go_upto_region 22 with (fail)
  refine wp_region_held_drew (S := (fun w' => w'.cell? ⟨w.heap.size, 0, none⟩ = some (.pointer (some ⟨h, 0, none⟩)))) (by kernel_rfl) HS.out.drew.box (fun hHeld => ?_)
  refine wpAnyH_take (i := 0) (v := ?_) rfl (by kernel_rfl) (by kernel_rfl) (by kernel_rfl) (fun _ _ _ h => h) (Or.inl ⟨by rfl, ?_⟩) hHeld ?_; rotate_left; focus (intro w_ hSw; (try dsimp only at hSw); go_simp; (try with_reducible rfl)); rotate_left; try simp only [Act.put, Lsa, Lsz, Lss]
  refine wpAnyH_take (i := 1) (v := ?_) rfl (by kernel_rfl) (by kernel_rfl) (by kernel_rfl) (fun _ _ _ h => h) (Or.inl ⟨by rfl, ?_⟩) hHeld ?_; rotate_left; focus (intro w_ hSw; (try dsimp only at hSw); go_simp; (try with_reducible rfl)); rotate_left; try simp only [Act.put, Lsa, Lsz, Lss]
  refine wpAnyH_ready (rs := [2]) (by kernel_rfl) (by simp) ?_
  refine AllReadyH.cons rfl (fun K hK => ?_) AllReadyH.nil
  go_simp
  go_wp2_with (go_at_call 165; refine (HT.out _ HS.out.drew.rd HS.out.drew.bel).mono ?_; rintro e wq hp; obtain ⟨rfl, hbq, hkq⟩ := hp.none_; clear hp; exact SPost.no HO2.out ⟨rfl, rfl, hbq.out, GH.keep HS.out.drew.kept hkq.out, _, HS.out.drew.pk.keep hkq.out (Ne.symm HS.out.gh)⟩)
 | some x =>
  obtain ⟨n, l2⟩ := x
  have HT : Aside0 (∀ W, RdAt w0 W g l → Below w0.heap.size w0 W → Calls Tryz.prog 165 #[.pointer (some ⟨g, 0, none⟩)] W (RPost w0 W g (numV (some (n, l2))))) := ⟨fun W h1 h2 => by have := id_calls g l w0 W h1 h2; rw [hx] at this; exact this⟩
  have HO2 : Aside0 (o = if l2 = [] then none else (subLoop false true (l2.length + 1) [] [] l2).bind fun (ns, cs) => if cs.any (badI 9) = true then none else some (n, ns, cs)) := ⟨by rw [HO.out]; simp [subF, hx]⟩
  clear HO hx
  go_enter Tryz.func99, Tryz.ntmps99
  go_upto_region 22 with (fail)
  go_region_held3 (fun w' => w'.cell? ⟨w.heap.size, 0, none⟩ = some (.pointer (some ⟨h, 0, none⟩))) (first | exact HS.out.drew.box | exact cbq | exact (HS2.out.set (q := { p with id := n }) 2 (.int .i64 (n : Int)) rfl).box) ((go_at_call 165; refine (HT.out _ HS.out.drew.rd HS.out.drew.bel).mono ?_; rintro e wq hp; obtain ⟨rfl, hrq, hbq, hkq⟩ := hp.some_; clear hp; have HS2 := Amk (HS.out.drew.read hrq.out hbq.out hkq.out); have cbq := HS2.out.box; have zq := HS2.out.frozen 2; have cq := (HS2.out.cell 2).trans (show _ = some (Value.int .i64 p.id) from rfl)))
  have HS3 := Amk (Sub.mk0 (HS2.out.set (q := { p with id := n }) 2 (.int .i64 (n : Int)) rfl) HNM.out.1 HNM.out.2 HSZ.out)
  clear HS HS2 HT cb c0 cbq zq cq hrq hbq hkq
  generalize wq.setCell ⟨h, 2, none⟩ (.int .i64 (n : Int)) = w3 at *
  have cg := HS3.out.st.str
  cases l2 with
  | nil =>
   go_wp2_with (go_at_call 96; refine (unless_no _).mono ?_; rintro e wz ⟨rfl, rfl⟩)
   exact HS3.out.no rfl (HO2.out.trans (by simp))
  | cons y0 l8 =>
   have hl : (y0 :: l8).isEmpty = false := rfl
   obtain ⟨r, hr⟩ : ∃ r, r = subLoop false true ((y0 :: l8).length + 1) [] [] (y0 :: l8) := ⟨_, rfl⟩
   have HR0 := Amk hr.symm
   have HO : Aside0 (o = r.bind fun (ns, cs) => if cs.any (badI 9) = true then none else some (n, ns, cs)) := ⟨by rw [HO2.out, if_neg (by simp), hr]⟩
   clear HO2 hr
   go_wp2_with (go_at_call 96; refine (unless_yes _).mono ?_; rintro e wz ⟨rfl, rfl⟩)
   go_loopg [] ((y0 :: l8).length + 1) (fun kq wr => ∃ q ns cs l', Aside0 (Sub w0 w g h w.heap.size q l' wr ns cs) ∧ Aside0 (q.kind = 9) ∧ Aside0 (∃ vN vC, q = { p with id := n, names := vN, codes := vC }) ∧ Aside0 (l'.length + 1 ≤ kq) ∧ Aside0 (subLoop false true kq ns cs l' = r) ∧ Aside0 (ns.length ≤ 32 ∧ cs.length ≤ 32))
   case atStart => exact ⟨_, _, _, _, HS3, HPK, ⟨_, _, rfl⟩, ⟨Nat.le_refl _⟩, HR0, ⟨by decide⟩⟩
   case round =>
    obtain ⟨q, ns, cs, l', HQ, HK, HE, HLE, HR, HL⟩ := hrel
    clear HS3 HR0 cg hl
    cases gk with
    | zero => exact absurd HLE.out (by omega)
    | succ gi =>
     cases l' with
     | nil =>
      have HR2 : Aside0 (r = some (ns, cs)) := ⟨by rw [← HR.out, subLoop, if_pos rfl]⟩
      clear HR
      have cb := HQ.out.st.box
      have cg := HQ.out.st.str
      have c0 : wr.cell? ⟨h, 0, none⟩ = some (.int .i64 9) := (HQ.out.st.cell 0).trans (by rw [← HK.out]; rfl)
      obtain ⟨A2, e2, hC1, _, hCC⟩ := Kd.R_reads HQ.out.cd
      have c11 : wr.cell? ⟨h, 11, none⟩ = some (.slice A2 cs.length e2) := (HQ.out.st.cell 11).trans (by rw [← hC1]; rfl)
      have HCT := Amk (containsI 9 w.heap.size h cs A2 e2 wr cb c0 hCC (by have := HL.out; omega))
      clear hC1 hCC
      have hmf : ∀ (fn : Fn) (first cap : Array Value) (w : World), (Instr.makeFunc fn first cap).run Tryz.prog w = .ok (.func fn first cap) w := fun _ _ _ _ => rfl
      obtain ⟨bd, hbd⟩ : ∃ bd, bd = cs.any (badI 9) := ⟨_, rfl⟩
      rw [← hbd] at HCT
      have HBD := Amk hbd
      clear hbd
      cases bd
      ·
       have HO2 : Aside0 (o = some (n, ns, cs)) := ⟨by rw [HO.out, HR2.out]; simp only [Option.bind_some]; rw [← HBD.out]; rfl⟩
       go_wp2_with (first | (go_at_call 167; refine HCT.out.mono ?_; rintro e wz ⟨rfl, rfl⟩) | (go_at_call 96; refine (unless_yes _).mono ?_; rintro e wz ⟨rfl, rfl⟩))
       go_end0
       obtain ⟨vN, vC, rfl⟩ := HE.out
       exact HQ.out.yes HO2.out
      ·
       have HO2 : Aside0 (o = none) := ⟨by rw [HO.out, HR2.out]; simp only [Option.bind_some]; rw [← HBD.out]; rfl⟩
       go_wp2_with (first | (go_at_call 167; refine HCT.out.mono ?_; rintro e wz ⟨rfl, rfl⟩) | (go_at_call 96; refine (unless_no _).mono ?_; rintro e wz ⟨rfl, rfl⟩))
       exact HQ.out.no rfl HO2.out
     | cons y l9 =>
      have hl : (y :: l9).isEmpty = false := rfl
      have cb := HQ.out.st.box
      have c0 : wr.cell? ⟨h, 0, none⟩ = some (.int .i64 9) := (HQ.out.st.cell 0).trans (by rw [← HK.out]; rfl)
      have cg := HQ.out.st.str
      have HR2 : Aside0 (r = (subN false ns (y :: l9)).bind fun (ns, l) => (subC true cs l).bind fun (cs, l) => if ns.length ≤ 32 ∧ cs.length ≤ 32 then subLoop false true gi ns cs l else none) := ⟨by rw [← HR.out, subLoop]; rw [if_neg (by simp)]⟩
      clear HR
      obtain ⟨An, en, hqn, _, _⟩ := Kd.R_reads HQ.out.cd
      have HQN := Amk hqn
      clear hqn
      have cnC : wr.cell? ⟨h, 11, none⟩ = some (Value.slice An cs.length en) := (HQ.out.st.cell 11).trans (by rw [← HQN.out]; rfl)
      cases hC : byteF (y :: l9) with
      | none =>
       have HO2 : Aside0 (o = none) := ⟨by rw [HO.out, HR2.out]; simp [subN, subC, hC]⟩
       have HT : Aside0 (∀ W, RdAt w0 W g (y :: l9) → Below w0.heap.size w0 W → Calls Tryz.prog 163 #[.pointer (some ⟨g, 0, none⟩)] W (RPost w0 W g none)) := ⟨fun W h1 h2 => by have := byte_calls g (y :: l9) w0 W h1 h2; rw [hC] at this; exact this⟩
       go_upto_region 28 with (fail)
       refine wp_region_held_drew (S := (fun w' => w'.cell? ⟨w.heap.size, 0, none⟩ = some (.pointer (some ⟨h, 0, none⟩)))) (by kernel_rfl) HQ.out.drew.st.box (fun hHeld => ?_)
       refine wpAnyH_take (i := 0) (v := ?_) rfl (by kernel_rfl) (by kernel_rfl) (by kernel_rfl) (fun _ _ _ h => h) (Or.inl ⟨by rfl, ?_⟩) hHeld ?_; rotate_left; focus (intro w_ hSw; (try dsimp only at hSw); go_simp; (try with_reducible rfl)); rotate_left; try simp only [Act.put, Lsa, Lsz, Lss]
       refine wpAnyH_take (i := 1) (v := ?_) rfl (by kernel_rfl) (by kernel_rfl) (by kernel_rfl) (fun _ _ _ h => h) (Or.inl ⟨by rfl, ?_⟩) hHeld ?_; rotate_left; focus (intro w_ hSw; (try dsimp only at hSw); go_simp; (try with_reducible rfl)); rotate_left; try simp only [Act.put, Lsa, Lsz, Lss]
       refine wpAnyH_take (i := 2) (v := ?_) rfl (by kernel_rfl) (by kernel_rfl) (by kernel_rfl) (fun _ _ _ h => h) (Or.inl ⟨by rfl, ?_⟩) hHeld ?_; rotate_left; focus (intro w_ hSw; (try dsimp only at hSw); go_simp; (try with_reducible rfl)); rotate_left; try simp only [Act.put, Lsa, Lsz, Lss]
       refine wpAnyH_take (i := 3) (v := ?_) rfl (by kernel_rfl) (by kernel_rfl) (by kernel_rfl) (fun _ _ _ h => h) (Or.inl ⟨by rfl, ?_⟩) hHeld ?_; rotate_left; focus (intro w_ hSw; (try dsimp only at hSw); go_simp; (try with_reducible rfl)); rotate_left; try simp only [Act.put, Lsa, Lsz, Lss]
       refine wpAnyH_take (i := 5) (v := ?_) rfl (by kernel_rfl) (by kernel_rfl) (by kernel_rfl) (fun _ _ _ h => h) (Or.inl ⟨by rfl, ?_⟩) hHeld ?_; rotate_left; focus (intro w_ hSw; (try dsimp only at hSw); go_simp; (try with_reducible rfl)); rotate_left; try simp only [Act.put, Lsa, Lsz, Lss]
       refine wpAnyH_ready (rs := [4, 6]) (by kernel_rfl) (by simp) ?_
       refine AllReadyH.cons rfl (fun K hK => ?_) (AllReadyH.cons rfl (fun K hK => ?_) AllReadyH.nil)
       ·
        go_simp
        refine hK.out _ _ hHeld (fun hHeld => ?_)
        clear hK K
        try simp only [Act.put, Lsa, Lsz, Lss]
        refine wpAnyH_ready (rs := [6]) (by kernel_rfl) (by simp) ?_
        refine AllReadyH.cons rfl (fun K hK => ?_) AllReadyH.nil
        go_simp
        go_wp2_with (go_at_call 163; refine (HT.out _ HQ.out.drew.st.rd HQ.out.drew.st.bel).mono ?_; rintro e wq hp; obtain ⟨rfl, hbq, hkq⟩ := hp.none_; clear hp; exact SPost.no HO2.out ⟨rfl, rfl, hbq.out, GH.keep HQ.out.drew.st.kept hkq.out, _, HQ.out.drew.st.pk.keep hkq.out (Ne.symm HQ.out.st.gh)⟩)
       ·
        go_simp
        go_wp2_with (go_at_call 163; refine (HT.out _ HQ.out.drew.st.rd HQ.out.drew.st.bel).mono ?_; rintro e wq hp; obtain ⟨rfl, hbq, hkq⟩ := hp.none_; clear hp; exact SPost.no HO2.out ⟨rfl, rfl, hbq.out, GH.keep HQ.out.drew.st.kept hkq.out, _, HQ.out.drew.st.pk.keep hkq.out (Ne.symm HQ.out.st.gh)⟩)
      | some x =>
       obtain ⟨c, l3⟩ := x
       have HLC := Amk (byteF_len hC)
       have HR4 : Aside0 (r = if ns.length ≤ 32 ∧ (cs ++ [(c : Int)]).length ≤ 32 then subLoop false true gi ns (cs ++ [(c : Int)]) l3 else none) := ⟨by rw [HR2.out]; simp [subN, subC, hC]⟩
       have HT : Aside0 (∀ W, RdAt w0 W g (y :: l9) → Below w0.heap.size w0 W → Calls Tryz.prog 163 #[.pointer (some ⟨g, 0, none⟩)] W (RPost w0 W g (numV (some (c, l3))))) := ⟨fun W h1 h2 => by have := byte_calls g (y :: l9) w0 W h1 h2; rw [hC] at this; exact this⟩
       clear HR2 hC
       go_upto_region 28 with (fail)
       go_cut [] (fun wx => ∃ q', Aside0 (Sub w0 w g h w.heap.size q' l3 wx ns (cs ++ [(c : Int)])) ∧ Aside0 (q'.kind = 9) ∧ Aside0 (∃ vN vC, q' = { p with id := n, names := vN, codes := vC }))
       case first =>
        refine wp_region_held_drew (S := (fun w' => w'.cell? ⟨w.heap.size, 0, none⟩ = some (.pointer (some ⟨h, 0, none⟩)))) (by kernel_rfl) (by first | exact HQ.out.drew.st.box | exact HQ.out.st.box) (fun hHeld => ?_)
        refine tkH 0 ?_ hHeld ?_ ?_; rotate_left; focus (intro w_ hSw; (try dsimp only at hSw); go_simp; (try simp only [hSw]); (try rfl)); rotate_left; try simp only [Lga, Lgz, Lgs, Act.put, Lsa, Lsz, Lss]
        refine tkH 1 ?_ hHeld ?_ ?_; rotate_left; focus (intro w_ hSw; (try dsimp only at hSw); go_simp; (try simp only [hSw]); (try rfl)); rotate_left; try simp only [Lga, Lgz, Lgs, Act.put, Lsa, Lsz, Lss]
        refine tkH 2 ?_ hHeld ?_ ?_; rotate_left; focus (intro w_ hSw; (try dsimp only at hSw); go_simp; (try simp only [hSw]); (try rfl)); rotate_left; try simp only [Lga, Lgz, Lgs, Act.put, Lsa, Lsz, Lss]
        refine tkH 3 ?_ hHeld ?_ ?_; rotate_left; focus (intro w_ hSw; (try dsimp only at hSw); go_simp; (try simp only [hSw]); (try rfl)); rotate_left; try simp only [Lga, Lgz, Lgs, Act.put, Lsa, Lsz, Lss]
        refine tkH 5 ?_ hHeld ?_ ?_; rotate_left; focus (intro w_ hSw; (try dsimp only at hSw); go_simp; (try simp only [hSw]); (try rfl)); rotate_left; try simp only [Lga, Lgz, Lgs, Act.put, Lsa, Lsz, Lss]
        refine wpAnyH_ready (rs := [4, 6]) (by kernel_rfl) (by simp) ?_
        refine AllReadyH.cons rfl (fun K hK => ?_) (AllReadyH.cons rfl (fun K hK => ?_) AllReadyH.nil)
        ·
         go_simp
         (first | refine hK.out _ _ HQ.out.drew.st.box (fun hHeld => ?_) | refine hK _ _ HQ.out.drew.st.box (fun hHeld => ?_)); try simp only [Lga, Lgz, Lgs, Act.put, Lsa, Lsz, Lss]
         refine wpAnyH_ready (rs := [6]) (by kernel_rfl) (by simp) ?_
         refine AllReadyH.cons rfl (fun K hK => ?_) AllReadyH.nil
         ·
          go_wp2_with (go_at_call 163; refine (HT.out _ HQ.out.drew.st.rd HQ.out.drew.st.bel).mono ?_; rintro e wq hp; obtain ⟨rfl, hrq, hbq, hkq⟩ := hp.some_; clear hp; have HA := Amk (HQ.out.drew.read hrq.out hbq.out hkq.out); have cbq := HA.out.st.box; have cnq := (HA.out.st.cell 11).trans (show _ = some (Value.slice An cs.length en) from by rw [← HQN.out]; rfl); have cnr := ((HA.out.st.alloc (.cells #[.int .i64 (c : Int)] 3)).cell 11).trans (show _ = some (Value.slice An cs.length en) from by rw [← HQN.out]; rfl))
          (first | refine hK.out _ _ cbq (fun hHeld => ?_) | refine hK _ _ cbq (fun hHeld => ?_)); try simp only [Lga, Lgz, Lgs, Act.put, Lsa, Lsz, Lss]
          refine wpAnyH_ready (rs := [7]) (by kernel_rfl) (by simp) ?_
          refine AllReadyH.cons rfl (fun K hK => ?_) AllReadyH.nil
          ·
           go_simp
           (first | refine hK.out _ _ (HA.out.st.alloc _).box (fun hHeld => ?_) | refine hK _ _ (HA.out.st.alloc _).box (fun hHeld => ?_)); try simp only [Lga, Lgz, Lgs, Act.put, Lsa, Lsz, Lss]
           refine wpAnyH_ready (rs := [8]) (by kernel_rfl) (by simp) ?_
           refine AllReadyH.cons rfl (fun K hK => ?_) AllReadyH.nil
           ·
            refine Kd.R_append_step (Kd.int .i64) (w0 := wq) w.heap.size rfl (.tmp 130) (.tmp 133) 43 3 (.int .i64 0) 8 rfl Tryz.underlying43 info3 rfl (by decide) (by decide) (.slice An cs.length en) cs (c : Int) [.int .i64 (c : Int)] (fun _ => True) (fun _ => False) rfl rfl rfl (fun _ hk => hk.elim) (fun _ _ => trivial) (by rw [← HQN.out]; exact HA.out.cd) (Below.refl _ _) (Nat.le_trans HA.out.st.wb (Nat.le_of_lt (blk_lt HA.out.st.bx))) (by have := HL.out; omega) ?_; intro v1 w1 hR hB hG hat; obtain ⟨A1, c1, hv⟩ := Kd.R_slice hR; obtain ⟨nl, hnl⟩ : ∃ nl, nl = (cs ++ [(c : Int)]).length := ⟨_, rfl⟩; rw [← hnl] at hv; subst hv; clear hnl; have hR1 := Amk hR; have hB1 := Amk hB; have hG1 : Aside0 (wq.grownBy w1 q.codes.ownBlock) := ⟨by rw [HQN.out]; exact hG⟩; clear hR hB hG hat; have cbr := (HA.out.pushC hR1.out hB1.out hG1.out).st.box; have z1 := (HA.out.grown hB1.out hG1.out (Kd.R_ne HA.out.cd HA.out.st.rd.1 (by decide)) (Kd.R_ne HA.out.cd HA.out.st.pk.1 (by decide)) (Kd.R_ne HA.out.cd HA.out.st.bx (by decide))).pk; have z2 := z1.frozen 11; have z3 := (z1.cell 11).trans (show _ = some (Value.slice An cs.length en) from by rw [← HQN.out]; rfl); have z4 := (HA.out.grown hB1.out hG1.out (Kd.R_ne HA.out.cd HA.out.st.rd.1 (by decide)) (Kd.R_ne HA.out.cd HA.out.st.pk.1 (by decide)) (Kd.R_ne HA.out.cd HA.out.st.bx (by decide))).box; clear z1
            (first | refine hK.out _ _ z4 (fun hHeld => ?_) | refine hK _ _ z4 (fun hHeld => ?_)); try simp only [Lga, Lgz, Lgs, Act.put, Lsa, Lsz, Lss]
            refine tkH 9 ?_ hHeld ?_ ?_; rotate_left; focus (intro w_ hSw; (try dsimp only at hSw); go_simp; (try simp only [hSw]); (try rfl)); rotate_left; try simp only [Lga, Lgz, Lgs, Act.put, Lsa, Lsz, Lss]
            refine tkH 10 ?_ hHeld ?_ ?_; rotate_left; focus (intro w_ hSw; (try dsimp only at hSw); go_simp; (try simp only [hSw]); (try rfl)); rotate_left; try simp only [Lga, Lgz, Lgs, Act.put, Lsa, Lsz, Lss]
            refine wpAnyH_ready (rs := [11]) (by kernel_rfl) (by simp) ?_
            refine AllReadyH.cons rfl (fun K hK => ?_) AllReadyH.nil
            ·
             go_simp
             (first | refine hK.out _ _ cbr (fun hHeld => ?_) | refine hK _ _ cbr (fun hHeld => ?_)); try simp only [Lga, Lgz, Lgs, Act.put, Lsa, Lsz, Lss]
             refine wpAnyH_done (by kernel_rfl) ?_ _
             clear hK K
             go_wp2_with fail
             go_meet
             exact ⟨_, ⟨HA.out.pushC hR1.out hB1.out hG1.out⟩, HK, ⟨by obtain ⟨vN, vC, e⟩ := HE.out; rw [e]; exact ⟨_, _, rfl⟩⟩⟩
        ·
         go_wp2_with (go_at_call 163; refine (HT.out _ HQ.out.drew.st.rd HQ.out.drew.st.bel).mono ?_; rintro e wq hp; obtain ⟨rfl, hrq, hbq, hkq⟩ := hp.some_; clear hp; have HA := Amk (HQ.out.drew.read hrq.out hbq.out hkq.out); have cbq := HA.out.st.box; have cnq := (HA.out.st.cell 11).trans (show _ = some (Value.slice An cs.length en) from by rw [← HQN.out]; rfl); have cnr := ((HA.out.st.alloc (.cells #[.int .i64 (c : Int)] 3)).cell 11).trans (show _ = some (Value.slice An cs.length en) from by rw [← HQN.out]; rfl))
         (first | refine hK.out _ _ cbq (fun hHeld => ?_) | refine hK _ _ cbq (fun hHeld => ?_)); try simp only [Lga, Lgz, Lgs, Act.put, Lsa, Lsz, Lss]
         refine wpAnyH_ready (rs := [4, 7]) (by kernel_rfl) (by simp) ?_
         refine AllReadyH.cons rfl (fun K hK => ?_) (AllReadyH.cons rfl (fun K hK => ?_) AllReadyH.nil)
         ·
          go_simp
          (first | refine hK.out _ _ cbq (fun hHeld => ?_) | refine hK _ _ cbq (fun hHeld => ?_)); try simp only [Lga, Lgz, Lgs, Act.put, Lsa, Lsz, Lss]
          refine wpAnyH_ready (rs := [7]) (by kernel_rfl) (by simp) ?_
          refine AllReadyH.cons rfl (fun K hK => ?_) AllReadyH.nil
          ·
           go_simp
           (first | refine hK.out _ _ (HA.out.st.alloc _).box (fun hHeld => ?_) | refine hK _ _ (HA.out.st.alloc _).box (fun hHeld => ?_)); try simp only [Lga, Lgz, Lgs, Act.put, Lsa, Lsz, Lss]
           refine wpAnyH_ready (rs := [8]) (by kernel_rfl) (by simp) ?_
           refine AllReadyH.cons rfl (fun K hK => ?_) AllReadyH.nil
           ·
            refine Kd.R_append_step (Kd.int .i64) (w0 := wq) w.heap.size rfl (.tmp 130) (.tmp 133) 43 3 (.int .i64 0) 8 rfl Tryz.underlying43 info3 rfl (by decide) (by decide) (.slice An cs.length en) cs (c : Int) [.int .i64 (c : Int)] (fun _ => True) (fun _ => False) rfl rfl rfl (fun _ hk => hk.elim) (fun _ _ => trivial) (by rw [← HQN.out]; exact HA.out.cd) (Below.refl _ _) (Nat.le_trans HA.out.st.wb (Nat.le_of_lt (blk_lt HA.out.st.bx))) (by have := HL.out; omega) ?_; intro v1 w1 hR hB hG hat; obtain ⟨A1, c1, hv⟩ := Kd.R_slice hR; obtain ⟨nl, hnl⟩ : ∃ nl, nl = (cs ++ [(c : Int)]).length := ⟨_, rfl⟩; rw [← hnl] at hv; subst hv; clear hnl; have hR1 := Amk hR; have hB1 := Amk hB; have hG1 : Aside0 (wq.grownBy w1 q.codes.ownBlock) := ⟨by rw [HQN.out]; exact hG⟩; clear hR hB hG hat; have cbr := (HA.out.pushC hR1.out hB1.out hG1.out).st.box; have z1 := (HA.out.grown hB1.out hG1.out (Kd.R_ne HA.out.cd HA.out.st.rd.1 (by decide)) (Kd.R_ne HA.out.cd HA.out.st.pk.1 (by decide)) (Kd.R_ne HA.out.cd HA.out.st.bx (by decide))).pk; have z2 := z1.frozen 11; have z3 := (z1.cell 11).trans (show _ = some (Value.slice An cs.length en) from by rw [← HQN.out]; rfl); have z4 := (HA.out.grown hB1.out hG1.out (Kd.R_ne HA.out.cd HA.out.st.rd.1 (by decide)) (Kd.R_ne HA.out.cd HA.out.st.pk.1 (by decide)) (Kd.R_ne HA.out.cd HA.out.st.bx (by decide))).box; clear z1
            (first | refine hK.out _ _ z4 (fun hHeld => ?_) | refine hK _ _ z4 (fun hHeld => ?_)); try simp only [Lga, Lgz, Lgs, Act.put, Lsa, Lsz, Lss]
            refine tkH 9 ?_ hHeld ?_ ?_; rotate_left; focus (intro w_ hSw; (try dsimp only at hSw); go_simp; (try simp only [hSw]); (try rfl)); rotate_left; try simp only [Lga, Lgz, Lgs, Act.put, Lsa, Lsz, Lss]
            refine tkH 10 ?_ hHeld ?_ ?_; rotate_left; focus (intro w_ hSw; (try dsimp only at hSw); go_simp; (try simp only [hSw]); (try rfl)); rotate_left; try simp only [Lga, Lgz, Lgs, Act.put, Lsa, Lsz, Lss]
            refine wpAnyH_ready (rs := [11]) (by kernel_rfl) (by simp) ?_
            refine AllReadyH.cons rfl (fun K hK => ?_) AllReadyH.nil
            ·
             go_simp
             (first | refine hK.out _ _ cbr (fun hHeld => ?_) | refine hK _ _ cbr (fun hHeld => ?_)); try simp only [Lga, Lgz, Lgs, Act.put, Lsa, Lsz, Lss]
             refine wpAnyH_done (by kernel_rfl) ?_ _
             clear hK K
             go_wp2_with fail
             go_meet
             exact ⟨_, ⟨HA.out.pushC hR1.out hB1.out hG1.out⟩, HK, ⟨by obtain ⟨vN, vC, e⟩ := HE.out; rw [e]; exact ⟨_, _, rfl⟩⟩⟩
         ·
          go_simp
          (first | refine hK.out _ _ (HA.out.st.alloc _).box (fun hHeld => ?_) | refine hK _ _ (HA.out.st.alloc _).box (fun hHeld => ?_)); try simp only [Lga, Lgz, Lgs, Act.put, Lsa, Lsz, Lss]
          refine wpAnyH_ready (rs := [4]) (by kernel_rfl) (by simp) ?_
          refine AllReadyH.cons rfl (fun K hK => ?_) AllReadyH.nil
          ·
           go_simp
           (first | refine hK.out _ _ (HA.out.st.alloc _).box (fun hHeld => ?_) | refine hK _ _ (HA.out.st.alloc _).box (fun hHeld => ?_)); try simp only [Lga, Lgz, Lgs, Act.put, Lsa, Lsz, Lss]
           refine wpAnyH_ready (rs := [8]) (by kernel_rfl) (by simp) ?_
           refine AllReadyH.cons rfl (fun K hK => ?_) AllReadyH.nil
           ·
            refine Kd.R_append_step (Kd.int .i64) (w0 := wq) w.heap.size rfl (.tmp 130) (.tmp 133) 43 3 (.int .i64 0) 8 rfl Tryz.underlying43 info3 rfl (by decide) (by decide) (.slice An cs.length en) cs (c : Int) [.int .i64 (c : Int)] (fun _ => True) (fun _ => False) rfl rfl rfl (fun _ hk => hk.elim) (fun _ _ => trivial) (by rw [← HQN.out]; exact HA.out.cd) (Below.refl _ _) (Nat.le_trans HA.out.st.wb (Nat.le_of_lt (blk_lt HA.out.st.bx))) (by have := HL.out; omega) ?_; intro v1 w1 hR hB hG hat; obtain ⟨A1, c1, hv⟩ := Kd.R_slice hR; obtain ⟨nl, hnl⟩ : ∃ nl, nl = (cs ++ [(c : Int)]).length := ⟨_, rfl⟩; rw [← hnl] at hv; subst hv; clear hnl; have hR1 := Amk hR; have hB1 := Amk hB; have hG1 : Aside0 (wq.grownBy w1 q.codes.ownBlock) := ⟨by rw [HQN.out]; exact hG⟩; clear hR hB hG hat; have cbr := (HA.out.pushC hR1.out hB1.out hG1.out).st.box; have z1 := (HA.out.grown hB1.out hG1.out (Kd.R_ne HA.out.cd HA.out.st.rd.1 (by decide)) (Kd.R_ne HA.out.cd HA.out.st.pk.1 (by decide)) (Kd.R_ne HA.out.cd HA.out.st.bx (by decide))).pk; have z2 := z1.frozen 11; have z3 := (z1.cell 11).trans (show _ = some (Value.slice An cs.length en) from by rw [← HQN.out]; rfl); have z4 := (HA.out.grown hB1.out hG1.out (Kd.R_ne HA.out.cd HA.out.st.rd.1 (by decide)) (Kd.R_ne HA.out.cd HA.out.st.pk.1 (by decide)) (Kd.R_ne HA.out.cd HA.out.st.bx (by decide))).box; clear z1
            (first | refine hK.out _ _ z4 (fun hHeld => ?_) | refine hK _ _ z4 (fun hHeld => ?_)); try simp only [Lga, Lgz, Lgs, Act.put, Lsa, Lsz, Lss]
            refine tkH 9 ?_ hHeld ?_ ?_; rotate_left; focus (intro w_ hSw; (try dsimp only at hSw); go_simp; (try simp only [hSw]); (try rfl)); rotate_left; try simp only [Lga, Lgz, Lgs, Act.put, Lsa, Lsz, Lss]
            refine tkH 10 ?_ hHeld ?_ ?_; rotate_left; focus (intro w_ hSw; (try dsimp only at hSw); go_simp; (try simp only [hSw]); (try rfl)); rotate_left; try simp only [Lga, Lgz, Lgs, Act.put, Lsa, Lsz, Lss]
            refine wpAnyH_ready (rs := [11]) (by kernel_rfl) (by simp) ?_
            refine AllReadyH.cons rfl (fun K hK => ?_) AllReadyH.nil
            ·
             go_simp
             (first | refine hK.out _ _ cbr (fun hHeld => ?_) | refine hK _ _ cbr (fun hHeld => ?_)); try simp only [Lga, Lgz, Lgs, Act.put, Lsa, Lsz, Lss]
             refine wpAnyH_done (by kernel_rfl) ?_ _
             clear hK K
             go_wp2_with fail
             go_meet
             exact ⟨_, ⟨HA.out.pushC hR1.out hB1.out hG1.out⟩, HK, ⟨by obtain ⟨vN, vC, e⟩ := HE.out; rw [e]; exact ⟨_, _, rfl⟩⟩⟩
       case rest =>
        clear HK HE HT HQN cnC HQ cb c0 cg
        obtain ⟨q2, HC, HK, HE⟩ := hcut
        obtain ⟨wC, rfl⟩ : ∃ W : World, W = wc := ⟨_, rfl⟩
        have cb := HC.out.st.box
        have c0 : wC.cell? ⟨h, 0, none⟩ = some (.int .i64 9) := (HC.out.st.cell 0).trans (by rw [← HK.out]; rfl)
        obtain ⟨A1, e1, hN1, _, _⟩ := Kd.R_reads HC.out.nm
        obtain ⟨A2, e2, hC1, _, _⟩ := Kd.R_reads HC.out.cd
        have c10 : wC.cell? ⟨h, 10, none⟩ = some (.slice A1 ns.length e1) := (HC.out.st.cell 10).trans (by rw [← hN1]; rfl)
        have c11 : wC.cell? ⟨h, 11, none⟩ = some (.slice A2 (cs ++ [(c : Int)]).length e2) := (HC.out.st.cell 11).trans (by rw [← hC1]; rfl)
        have HN1 := Amk hN1
        have HC1 := Amk hC1
        clear hN1 hC1
        obtain ⟨ln, hln⟩ : ∃ ln, ln = ns.length := ⟨_, rfl⟩
        obtain ⟨lc, hlc⟩ : ∃ lc, lc = (cs ++ [(c : Int)]).length := ⟨_, rfl⟩
        rw [← hln] at c10
        rw [← hlc] at c11
        have HNL := Amk hln
        have HCL := Amk hlc
        clear hln hlc
        have HR5 : Aside0 (r = if ln ≤ 32 ∧ lc ≤ 32 then subLoop false true gi ns (cs ++ [(c : Int)]) l3 else none) := ⟨by rw [HNL.out, HCL.out, HR4.out]⟩
        by_cases h1 : ln ≤ 32
        case neg =>
         have d1 : decide ((ln : Int) ≤ 32) = false := decide_eq_false (by omega)
         have d2 : decide (ln ≤ 32) = false := decide_eq_false h1
         have HO2 : Aside0 (o = none) := ⟨by rw [HO.out, HR5.out, if_neg (fun h => h1 h.1)]; rfl⟩
         clear h1
         go_wp2_with (go_at_call 96; refine (unless_no _).mono ?_; rintro e wz ⟨rfl, rfl⟩)
         exact HC.out.no rfl HO2.out
        case pos =>
         have d1 : decide ((ln : Int) ≤ 32) = true := decide_eq_true (by omega)
         have d2 : decide (ln ≤ 32) = true := decide_eq_true h1
         by_cases h2 : lc ≤ 32
         case neg =>
          have d3 : decide ((lc : Int) ≤ 32) = false := decide_eq_false (by omega)
          have d4 : decide (lc ≤ 32) = false := decide_eq_false h2
          have HO2 : Aside0 (o = none) := ⟨by rw [HO.out, HR5.out, if_neg (fun h => h2 h.2)]; rfl⟩
          clear h1 h2
          go_wp2_with (go_at_call 96; refine (unless_no _).mono ?_; rintro e wz ⟨rfl, rfl⟩)
          exact HC.out.no rfl HO2.out
         case pos =>
          have d3 : decide ((lc : Int) ≤ 32) = true := decide_eq_true (by omega)
          have d4 : decide (lc ≤ 32) = true := decide_eq_true h2
          have HL2 := Amk (And.intro h1 h2)
          clear h1 h2
          go_wp2_with (go_at_call 96; refine (unless_yes _).mono ?_; rintro e wz ⟨rfl, rfl⟩)
          go_roundg gi
          case rel => exact ⟨q2, ns, (cs ++ [(c : Int)]), l3, HC, HK, HE, ⟨by have := HLE.out; have := HLC.out; simp only [List.length_cons] at *; omega⟩, ⟨by rw [HR5.out, if_pos HL2.out]⟩, ⟨by rw [← HNL.out, ← HCL.out]; exact HL2.out⟩⟩
          case measure => omega
end Go.Proofs.YtednegmjjjdinaaGreatDoor.Ext
namespace Go.Proofs.YtednegmjjjdinaaGreatDoor.U
open Go.RowKit Go.Proofs.YtednegmjjjdinaaGreatDoorW.PrintWords Go.Proofs.YtednegmjjjdinaaGreatDoorW.PrintLast Go.Proofs.YtednegmjjjdinaaGreatDoor.QG Go.Proofs.YtednegmjjjdinaaGreatDoor.QW Go.Proofs.YtednegmjjjdinaaGreatDoor.Ext Go.Proofs.YtednegmjjjdinaaGreatDoor.M
theorem bt_list (s : ByteArray) (i : Nat) (h : i < s.data.toList.length) : bt s (i : Int) = (s.data.toList[i].toNat : Int) := by
 have h2 : i < s.size := by rw [Lib.size_eq]; exact h
 have := bt_at s (i : Int) (by simpa using h2)
 rw [← this]
 obtain ⟨⟨l⟩⟩ := s
 simp
 rfl
theorem ext_one (s : ByteArray) (i : Nat) (h : i < s.data.toList.length) : s.extract i (i + 1) = ⟨[s.data.toList[i]].toArray⟩ := by
 have e : (s.extract i (i + 1)).data.toList = [s.data.toList[i]] := by
  rw [Lib.extract_data, Nat.add_sub_cancel_left, List.take_one, List.head?_drop, List.getElem?_eq_getElem h]
  rfl
 rw [← ba_of (s.extract i (i + 1)), e]
theorem ba_app (a b : List UInt8) : (⟨a.toArray⟩ : ByteArray) ++ ⟨b.toArray⟩ = ⟨(a ++ b).toArray⟩ := by
 rw [← ba_of (_ ++ _)]
 simp
theorem words_loop (s : ByteArray) (hs : s.size ≤ 1048576) (d : Nat) : ∀ (k i : Nat), i + d = s.data.toList.length → d < k →
  trivetref08_Words.l0 k s 46 (bas (words (s.data.toList.take i))) (i : Int) = some (bas (words s.data.toList)) := by
 have hl : s.data.toList.length = s.size := (Lib.size_eq s).symm
 induction d with
 | zero =>
  intro k i hi hk
  obtain ⟨k, rfl⟩ : ∃ m, k = m + 1 := ⟨k - 1, by omega⟩
  simp only [trivetref08_Words.l0]
  rw [if_neg (by omega), List.take_of_length_le (by omega)]
 | succ d ih =>
  intro k i hi hk
  obtain ⟨k, rfl⟩ : ∃ m, k = m + 1 := ⟨k - 1, by omega⟩
  have hlt : i < s.data.toList.length := by omega
  have hle := words_le' (s.data.toList.take i)
  have hle2 : (s.data.toList.take i).length ≤ s.size := by rw [List.length_take]; omega
  have hne : 1 ≤ (words (s.data.toList.take i)).length := by
   have := words_ne (s.data.toList.take i)
   cases h : words (s.data.toList.take i) with
   | nil => exact absurd h this
   | cons _ _ => simp
  have IH := ih k (i + 1) (by omega) (by omega)
  rw [take_snoc _ i hlt] at IH
  simp only [trivetref08_Words.l0]
  rw [if_pos (by omega), if_pos (by omega), bt_list s i hlt, wsucc i (by omega), bas_length]
  by_cases hc : s.data.toList[i] = 46
  ·
   rw [if_pos (by rw [hc]; rfl), if_pos (by omega)]
   rw [hc, words_snoc_dot] at IH
   have : bas (words (s.data.toList.take i) ++ [[]]) = bas (words (s.data.toList.take i)) ++ [⟨#[]⟩] := by simp [bas]
   rw [this] at IH
   exact IH
  ·
   have hc2 : ¬ ((s.data.toList[i].toNat : Int) = 46) := fun h => hc (UInt8.toNat_inj.1 (by show _ = 46; omega))
   have hw1 : wrap64 (((words (s.data.toList.take i)).length : Int) - 1) = (((words (s.data.toList.take i)).length - 1 : Nat) : Int) := by unfold wrap64; omega
   rw [if_neg hc2, hw1, if_pos (by omega), if_pos (by omega), if_pos (by omega), if_pos (by omega)]
   simp only [Int.toNat_natCast]
   rw [words_snoc _ _ hc] at IH
   have hW := words_ne (s.data.toList.take i)
   have hwl := words_len (s.data.toList.take i)
   generalize words (s.data.toList.take i) = W at *
   have hn : W.length - 1 < W.length := by omega
   have hlast := hwl W[W.length - 1] (List.getElem_mem hn)
   have hsz : (⟨W[W.length - 1].toArray⟩ : ByteArray).size = W[W.length - 1].length := Lib.size_eq _
   have hsz1 : (⟨[s.data.toList[i]].toArray⟩ : ByteArray).size = 1 := rfl
   rw [rd_bas W _ hn, ext_one s i hlt, if_pos (by omega), ba_app]
   rw [getLastD_at W hW [] hn] at IH
   have : (bas W).set (W.length - 1) ⟨(W[W.length - 1] ++ [s.data.toList[i]]).toArray⟩ = bas (W.dropLast ++ [W[W.length - 1] ++ [s.data.toList[i]]]) := by
    have h2 := set_last (bas W) (by simpa [bas] using hW) ⟨(W[W.length - 1] ++ [s.data.toList[i]]).toArray⟩
    rw [bas_length] at h2
    rw [h2]
    simp [bas, List.map_dropLast]
   rw [this]
   exact IH
theorem words_ev (s : ByteArray) (hs : s.size ≤ 1048576) : Ev (fun k => trivetref08_Words.f k s 46) (bas (words s.data.toList)) :=
 Ev.of (trivetref08_Words.mono _ _) (k := s.data.toList.length + 1) (words_loop s hs s.data.toList.length (s.data.toList.length + 1) 0 (by omega) (by omega))
theorem letter_if {α : Type} (c : UInt8) (a b : α) : (if (c.toNat : Int) ≥ 97 then (if (c.toNat : Int) ≤ 122 then a else (if (c.toNat : Int) ≥ 48 then (if (c.toNat : Int) ≤ 57 then a else (if (c.toNat : Int) = 45 then a else (if ((c.toNat : Int) = 95) then a else b))) else (if (c.toNat : Int) = 45 then a else (if ((c.toNat : Int) = 95) then a else b)))) else (if (c.toNat : Int) ≥ 48 then (if (c.toNat : Int) ≤ 57 then a else (if (c.toNat : Int) = 45 then a else (if ((c.toNat : Int) = 95) then a else b))) else (if (c.toNat : Int) = 45 then a else (if ((c.toNat : Int) = 95) then a else b)))) = if isLetter c = true then a else b := by
 have h1 : (c == 45) = decide ((c.toNat : Int) = 45) := by
  rw [Bool.eq_iff_iff, beq_iff_eq, decide_eq_true_iff, ← UInt8.toNat_inj]
  show c.toNat = 45 ↔ _
  omega
 have h2 : (c == 95) = decide ((c.toNat : Int) = 95) := by
  rw [Bool.eq_iff_iff, beq_iff_eq, decide_eq_true_iff, ← UInt8.toNat_inj]
  show c.toNat = 95 ↔ _
  omega
 unfold isLetter
 rw [h1, h2]
 simp only [Bool.or_eq_true, decide_eq_true_iff]
 repeat' split
 all_goals first | rfl | (exfalso; omega)
theorem name_loop (s : ByteArray) (hs : s.size ≤ 140737488355328) (d : Nat) : ∀ (k i : Nat), i + d = s.data.toList.length → d < k →
  trivetref07_Name.l0 k s (i : Int) = some ((s.data.toList.drop i).all isLetter && (decide (1 ≤ s.data.toList.length) && decide (s.data.toList.length ≤ 16))) := by
 have hl : s.data.toList.length = s.size := (Lib.size_eq s).symm
 induction d with
 | zero =>
  intro k i hi hk
  obtain ⟨k, rfl⟩ : ∃ m, k = m + 1 := ⟨k - 1, by omega⟩
  simp only [trivetref07_Name.l0]
  rw [if_neg (by omega), List.drop_of_length_le (by omega), hl]
  by_cases h : 1 ≤ s.size
  ·
   rw [if_pos (by omega), decide_eq_true h]
   congr 1
   simp only [List.all_nil, Bool.true_and]
   rw [Bool.eq_iff_iff, decide_eq_true_iff, decide_eq_true_iff]; omega
  ·
   rw [if_neg (by omega), decide_eq_false h]; rfl
 | succ d ih =>
  intro k i hi hk
  obtain ⟨k, rfl⟩ : ∃ m, k = m + 1 := ⟨k - 1, by omega⟩
  have hlt : i < s.data.toList.length := by omega
  have IH := ih k (i + 1) (by omega) (by omega)
  simp only [trivetref07_Name.l0]
  rw [if_pos (by omega), if_pos (by omega), bt_list s i hlt, wsucc i (by omega), letter_if]
  rw [List.drop_eq_getElem_cons hlt, List.all_cons]
  by_cases hc : isLetter s.data.toList[i] = true
  ·
   rw [if_pos hc, IH, hc, Bool.true_and]
  ·
   rw [if_neg hc, Bool.eq_false_iff.2 hc]; rfl
theorem name_ev (s : ByteArray) (hs : s.size ≤ 140737488355328) : Ev (fun k => trivetref07_Name.f k s) (isName s.data.toList) := by
 have h := Ev.of (trivetref07_Name.mono s) (k := s.data.toList.length + 1) (name_loop s hs s.data.toList.length (s.data.toList.length + 1) 0 (by omega) (by omega))
 rw [List.drop_zero] at h
 have e : (s.data.toList.all isLetter && (decide (1 ≤ s.data.toList.length) && decide (s.data.toList.length ≤ 16))) = isName s.data.toList := by
  unfold isName
  cases hl : s.data.toList with
  | nil => rfl
  | cons c l => simp [Bool.and_comm]
 rw [e] at h
 exact h
theorem refgood_loop (p : List (List UInt8)) (hp : Short p) (d : Nat) : ∀ i : Nat, i + d = p.length →
  Ev (fun k => trivetref08_Good.l0 k (bas p) (bas p) (p.length : Int) (i : Int)) ((p.drop i).all isName && decide (p.length ≤ 8)) := by
 have hpl := hp.1
 induction d with
 | zero =>
  intro i hi
  refine Ev.step (f := fun k => some (decide (p.length ≤ 8))) (fun k => ?_) ?_
  ·
   simp only [trivetref08_Good.l0]
   rw [if_neg (by omega), bas_length]
   congr 1
   rw [Bool.eq_iff_iff, decide_eq_true_iff, decide_eq_true_iff]; omega
  ·
   rw [List.drop_of_length_le (by omega)]
   exact Ev.now _
 | succ d ih =>
  intro i hi
  have hlt : i < p.length := by omega
  refine Ev.step (f := fun k => (trivetref07_Name.f k (⟨p[i].toArray⟩ : ByteArray)).bind fun t => if t = true then trivetref08_Good.l0 k (bas p) (bas p) (p.length : Int) ((i + 1 : Nat) : Int) else some false) (fun k => ?_) ?_
  ·
   simp only [trivetref08_Good.l0]
   rw [if_pos (by omega), if_pos (by omega), if_pos (by rw [bas_length]; omega), rd_bas p i hlt, wsucc i (by omega)]
  ·
   refine Ev.bind (name_ev _ (by rw [Lib.size_eq]; exact Nat.le_trans (hp.2 _ (List.getElem_mem hlt)) (by decide))) ?_
   rw [ba_list, List.drop_eq_getElem_cons hlt, List.all_cons]
   by_cases h : isName p[i] = true
   ·
    simp only [h, if_true, Bool.true_and]; exact ih (i + 1) (by omega)
   ·
    simp only [Bool.eq_false_iff.2 h, Bool.false_eq_true, if_false, Bool.false_and]; exact Ev.now _
theorem refgood_ev (s : ByteArray) : Ev (fun k => trivetref08_Good.f k s) (M.goodB s.data.toList) := by
 have hl : s.data.toList.length = s.size := (Lib.size_eq s).symm
 unfold M.goodB
 by_cases h : s.size ≤ 64
 ·
  refine Ev.congr (f := fun k => (trivetref08_Words.f k s 46).bind fun t => trivetref08_Good.l0 k t t (t.length : Int) 0) (fun k => ?_) ?_
  ·
   unfold trivetref08_Good.f; rw [if_neg (by omega)]
  ·
   refine Ev.bind (words_ev s (by omega)) ?_
   rw [bas_length]
   have := refgood_loop _ (short_words s (by omega)) (words s.data.toList).length 0 (by omega)
   rw [List.drop_zero, Bool.and_comm] at this
   rw [decide_eq_true (by omega : s.data.toList.length ≤ 64), Bool.true_and]
   exact this
 ·
  refine Ev.congr (f := fun k => some false) (fun k => ?_) ?_
  ·
   unfold trivetref08_Good.f; rw [if_pos (by omega)]
  ·
   rw [decide_eq_false (by omega : ¬ s.data.toList.length ≤ 64), Bool.false_and]
   exact Ev.now _
theorem refgood_calls (s : ByteArray) (w : World) : Calls Tryz.prog 63 #[.string s] w fun e w' => e = .returned (.bool (M.goodB s.data.toList)) ∧ Below w.heap.size w w' := by
 obtain ⟨k, hk⟩ := (refgood_ev s).rounds
 exact trivetref08_Good.calls k s _ w hk
theorem refname_calls (s : ByteArray) (hs : s.size ≤ 140737488355328) (w : World) : Calls Tryz.prog 110 #[.string s] w fun e w' => e = .returned (.bool (isName s.data.toList)) ∧ Below w.heap.size w w' := by
 obtain ⟨k, hk⟩ := (name_ev s hs).rounds
 exact (trivetref07_Name.calls k s _ w hk).mono (by rintro e w' ⟨rfl, hd⟩; exact ⟨rfl, hd.below⟩)
end Go.Proofs.YtednegmjjjdinaaGreatDoor.U
