/- Texts of this claim's author, joined and pruned by a program of his (pack.py): K. -/
import Derived.Test.YtednegmjjjdinaaGreatDoorProg
import Derived.Test.YtednegmjjjdinaaGreatDoorP2
import Derived.Test.YtednegmjjjdinaaGreatDoorP3
import Derived.Test.YtednegmjjjdinaaGreatDoorP4
namespace Go.Proofs.YtednegmjjjdinaaGreatDoor.K
open Go.RowKit Go.Proofs.YtednegmjjjdinaaGreatDoorW.PrintWords Go.Proofs.YtednegmjjjdinaaGreatDoorW.PrintLast Go.Proofs.YtednegmjjjdinaaGreatDoorW.PrintMore
attribute [local go_sem] max2_int min2_int max_two min_two max_three min_three max_four min_four
set_option linter.unusedVariables false
set_option linter.unusedSimpArgs false
def errW : Option Int → Value
 | none => .nilIface
 | some c => .iface 0 (.int .i64 c)
theorem errW_none : errW none = .nilIface := rfl
theorem errW_some (c : Int) : errW (some c) = .iface 0 (.int .i64 c) := rfl
theorem info5 : (Tryz.prog.info? 5).map (fun i => (i.zero, i.size, i.bytes)) = some (some (.int .u8 0), 1, 1) := by kernel_rfl
theorem info9 : (Tryz.prog.info? 9).map (fun i => (i.zero, i.size, i.bytes)) = some (some (.string ⟨#[]⟩), 1, 16) := by kernel_rfl
theorem info57 : (Tryz.prog.info? 57).map (fun i => (i.zero, i.size, i.bytes)) = some (some (.agg #[(.int .i64 0), (.string ⟨#[]⟩), (.slice none 0 0), (.int .i64 0), (.string ⟨#[]⟩)]), 5, 72) := by kernel_rfl
structure S179 where
 f0 : Int
 f1 : Int
 f2 : ByteArray
 f3 : Nat
def z179 : S179 := ⟨(0 : Int), (0 : Int), (⟨#[]⟩ : ByteArray), (0 : Nat)⟩
def k179 : Kd S179 := Kd.iso (Kd.pair (Kd.int .i64) (Kd.pair (Kd.int .i64) (Kd.pair Kd.string Kd.float))) (fun x : S179 => (x.f0, x.f1, x.f2, x.f3))
theorem k179_open {w : World} {x : S179} {cs : List Value} (h : k179.K w x cs) : cs = [.int .i64 x.f0, .int .i64 x.f1, .string x.f2, .float .f64 x.f3] := by
 obtain ⟨_, _, rfl, rfl, ⟨_, _, rfl, rfl, ⟨_, _, rfl, rfl, rfl⟩⟩⟩ := h
 exact rfl
structure S181 where
 f0 : ByteArray
 f1 : S179
def z181 : S181 := ⟨(⟨#[]⟩ : ByteArray), z179⟩
def k181 : Kd S181 := Kd.iso (Kd.pair Kd.string k179) (fun x : S181 => (x.f0, x.f1))
theorem k181_open {w : World} {x : S181} {cs : List Value} (h : k181.K w x cs) : cs = [.string x.f0, .int .i64 x.f1.f0, .int .i64 x.f1.f1, .string x.f1.f2, .float .f64 x.f1.f3] := by
 obtain ⟨_, _, rfl, rfl, s1⟩ := h
 obtain rfl := k179_open s1
 exact rfl
def rd_T181 (xs : List S181) (i : Int) : S181 := xs.getD i.toNat z181
theorem at_T181 {w : World} {A : Option Addr} {n : Nat} {xs : List S181} (h : Kd.C k181 w A n xs) (i : Int) (h0 : 0 ≤ i) (h1 : i < n) : ∃ ad , A = some ad ∧ w.cell? (ad.add (i.toNat * 5)) = some (.string (rd_T181 xs i).f0) ∧ w.cell? ⟨(ad.add (i.toNat * 5)).block, (ad.add (i.toNat * 5)).off + 1, none⟩ = some (.int .i64 (rd_T181 xs i).f1.f0) ∧ w.cell? ⟨(ad.add (i.toNat * 5)).block, (ad.add (i.toNat * 5)).off + 2, none⟩ = some (.int .i64 (rd_T181 xs i).f1.f1) ∧ w.cell? ⟨(ad.add (i.toNat * 5)).block, (ad.add (i.toNat * 5)).off + 3, none⟩ = some (.string (rd_T181 xs i).f1.f2) ∧ w.cell? ⟨(ad.add (i.toNat * 5)).block, (ad.add (i.toNat * 5)).off + 4, none⟩ = some (.float .f64 (rd_T181 xs i).f1.f3) := by
 obtain ⟨ad, c, e, _, hK, hc0⟩ := Kd.C_get h z181 i h0 h1
 have hc : ∀ j u, c[j]? = some u → w.cell? (ad.add (i.toNat * 5 + j)) = some u := hc0
 obtain rfl := k181_open hK
 exact ⟨ad, e, hc 0 _ rfl, by rw [← add_field _ _ 1 (by omega)]; exact hc 1 _ rfl, by rw [← add_field _ _ 2 (by omega)]; exact hc 2 _ rfl, by rw [← add_field _ _ 3 (by omega)]; exact hc 3 _ rfl, by rw [← add_field _ _ 4 (by omega)]; exact hc 4 _ rfl⟩
structure S62 where
 f0 : ByteArray
 f1 : ByteArray
 f2 : (List S181)
 f3 : Bool
 f4 : Int
def z62 : S62 := ⟨(⟨#[]⟩ : ByteArray), (⟨#[]⟩ : ByteArray), ([] : List S181), false, (0 : Int)⟩
def k62 : Kd S62 := Kd.iso (Kd.pair Kd.string (Kd.pair Kd.string (Kd.pair (Kd.slice 181 k181) (Kd.pair Kd.bool (Kd.int .i64))))) (fun x : S62 => (x.f0, x.f1, x.f2, x.f3, x.f4))
theorem k62_open {w : World} {x : S62} {cs : List Value} (h : k62.K w x cs) : ∃ A2 c2, cs = [.string x.f0, .string x.f1, .slice A2 x.f2.length c2, .bool x.f3, .int .i64 x.f4] ∧ x.f2.length ≤ c2 ∧ k181.C w A2 x.f2.length x.f2 := by
 obtain ⟨_, _, rfl, rfl, ⟨_, _, rfl, rfl, ⟨_, _, rfl, ⟨A2, c2, rfl, l2, g2⟩, ⟨_, _, rfl, rfl, rfl⟩⟩⟩⟩ := h
 exact ⟨A2, c2, rfl, l2, g2⟩
structure S64 where
 f0 : Int
 f1 : Int
 f2 : Int
 f3 : Int
 f4 : ByteArray
 f5 : ByteArray
 f6 : Bool
 f7 : Bool
 f8 : Bool
 f9 : S62
structure S57 where
 f0 : Int
 f1 : ByteArray
 f2 : (List S64)
 f3 : Int
 f4 : ByteArray
structure S66 where
 f0 : Int
 f1 : Int
 f2 : Int
 f3 : ByteArray
 f4 : Bool
 f5 : Bool
 f6 : S62
def z66 : S66 := ⟨(0 : Int), (0 : Int), (0 : Int), (⟨#[]⟩ : ByteArray), false, false, z62⟩
def k66 : Kd S66 := Kd.iso (Kd.pair (Kd.int .i64) (Kd.pair (Kd.int .i64) (Kd.pair (Kd.int .i64) (Kd.pair Kd.string (Kd.pair Kd.bool (Kd.pair Kd.bool k62)))))) (fun x : S66 => (x.f0, x.f1, x.f2, x.f3, x.f4, x.f5, x.f6))
theorem k66_open {w : World} {x : S66} {cs : List Value} (h : k66.K w x cs) : ∃ A8 c8, cs = [.int .i64 x.f0, .int .i64 x.f1, .int .i64 x.f2, .string x.f3, .bool x.f4, .bool x.f5, .string x.f6.f0, .string x.f6.f1, .slice A8 x.f6.f2.length c8, .bool x.f6.f3, .int .i64 x.f6.f4] ∧ x.f6.f2.length ≤ c8 ∧ k181.C w A8 x.f6.f2.length x.f6.f2 := by
 obtain ⟨_, _, rfl, rfl, ⟨_, _, rfl, rfl, ⟨_, _, rfl, rfl, ⟨_, _, rfl, rfl, ⟨_, _, rfl, rfl, ⟨_, _, rfl, rfl, s6⟩⟩⟩⟩⟩⟩ := h
 obtain ⟨A8, c8, rfl, l8, g8⟩ := k62_open s6
 exact ⟨A8, c8, rfl, l8, g8⟩
end Go.Proofs.YtednegmjjjdinaaGreatDoor.K
