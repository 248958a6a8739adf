/- Texts of this claim's author, joined and pruned by a program of his (pack.py): Vc. -/
import Derived.Test.YtednegmjjjdinaaGreatDoorP0
import Derived.Test.YtednegmjjjdinaaGreatDoorP1
import Derived.Test.YtednegmjjjdinaaGreatDoorP2
import Derived.Test.YtednegmjjjdinaaGreatDoorP3
import Derived.Test.YtednegmjjjdinaaGreatDoorP4
import Derived.Test.YtednegmjjjdinaaGreatDoorP5
import Derived.Test.YtednegmjjjdinaaGreatDoorP7
import Derived.Test.YtednegmjjjdinaaGreatDoorP10
import Derived.Test.YtednegmjjjdinaaGreatDoorP11
import Derived.Test.YtednegmjjjdinaaGreatDoorP12
import Derived.Test.YtednegmjjjdinaaGreatDoorP13
import Derived.Test.YtednegmjjjdinaaGreatDoorP14
import Derived.Test.YtednegmjjjdinaaGreatDoorP15
import Derived.Test.YtednegmjjjdinaaGreatDoorP16
namespace Go.Proofs.YtednegmjjjdinaaGreatDoor.Ext
open Go.RowKit
set_option linter.unusedVariables false
set_option linter.unusedSimpArgs false
theorem lenF_enc {n : Nat} (h : n < 16384) (r : List UInt8) : ∃ k, lenF (lenEnc n ++ r) = some (n, k) ∧ k = (lenEnc n).length ∧ k ≠ 0 := by
 by_cases h1 : n ≤ 127
 ·
  refine ⟨1, ?_, ?_, by decide⟩
  ·
   have e0 : (UInt8.ofNat n).toNat = n := by simp only [UInt8.toNat_ofNat']; omega
   rw [lenEnc, if_pos h1, List.singleton_append, lenF.eq_def]
   simp only
   rw [e0, if_pos (by omega)]
  ·
   rw [lenEnc, if_pos h1]; rfl
 ·
  have e : lenEnc n = [UInt8.ofNat (n % 128 + 128), UInt8.ofNat (n / 128)] := by
   rw [lenEnc, if_neg (by omega), lenEnc, if_pos (by omega)]
  refine ⟨2, ?_, by rw [e]; rfl, by decide⟩
  have e0 : (UInt8.ofNat (n % 128 + 128)).toNat = n % 128 + 128 := by simp only [UInt8.toNat_ofNat']; omega
  have e1 : (UInt8.ofNat (n / 128)).toNat = n / 128 := by simp only [UInt8.toNat_ofNat']; omega
  rw [e]
  simp only [List.cons_append, List.nil_append]
  rw [lenF.eq_def]
  simp only
  rw [e0, e1, if_neg (by omega), if_pos (by omega), if_neg (fun hz => by rw [hz] at e1; simp only [UInt8.toNat_zero] at e1; omega)]
  congr 2
  omega
theorem nextF_enc {k f : Nat} (hk : k < 16) (hf : f < 16) (hF : flagsF k f = true) {r : List UInt8} (hr : r.length < 16384) {q : Pkt} (hb : bodyF k f r = some q) : ∃ n, nextF (enc k f r) = .ok q n := by
 obtain ⟨w, h1, h2, h3⟩ := lenF_enc hr r
 have eb : (UInt8.ofNat (k * 16 + f)).toNat = k * 16 + f := by simp only [UInt8.toNat_ofNat']; omega
 have e1 : (k * 16 + f) / 16 = k := by omega
 have e2 : (k * 16 + f) % 16 = f := by omega
 refine ⟨1 + w + r.length, ?_⟩
 rw [enc, nextF, eb, e1, e2, if_pos hF, h1]
 simp only
 rw [if_neg h3, if_neg (by rw [List.length_append, ← h2]; omega)]
 have : ((lenEnc r.length ++ r).drop w).take r.length = r := by rw [h2, List.drop_left, List.take_length]
 rw [this, hb]
theorem textF_be16 {t r : List UInt8} (h : t.length ≤ 65535) : textF (be16 t.length ++ t ++ r) = some (t, r) := by
 have e0 : (UInt8.ofNat (t.length / 256)).toNat = t.length / 256 := by simp only [UInt8.toNat_ofNat']; omega
 have e1 : (UInt8.ofNat t.length).toNat = t.length % 256 := by simp only [UInt8.toNat_ofNat']
 unfold textF shortF be16
 simp only [List.cons_append, List.nil_append, byteF, Option.bind_some]
 rw [e0, e1, show t.length / 256 * 256 + t.length % 256 = t.length by omega, if_pos (by simp), List.take_left, List.drop_left]
theorem nextF_pub {f : Nat} (hf : f < 2) {t b : List UInt8} (ht : t.length ≤ 8192) (hb : b.length ≤ 1024) : ∃ n, nextF (enc 3 f (pubRest f 0 t b)) = .ok ⟨3, f, 0, 0, [], b, 0, false, t, false, [], []⟩ n := by
 have hq : ¬ 0 < f / 2 % 4 := by omega
 refine nextF_enc (by decide) (by omega) ?_ ?_ ?_
 ·
  rcases (show f = 0 ∨ f = 1 by omega) with rfl | rfl <;> decide
 ·
  unfold pubRest
  rw [if_neg hq]
  simp only [List.length_append, be16, List.length_cons, List.length_nil]
  omega
 ·
  unfold pubRest
  rw [if_neg hq, List.nil_append]
  unfold bodyF
  rw [if_neg (by decide), if_neg (by decide), if_pos rfl]
  unfold pubF
  rw [textF_be16 (by omega)]
  simp only [Option.bind_some]
  rw [if_neg hq]
  unfold pubEnd
  rw [if_pos hb]
  rfl
end Go.Proofs.YtednegmjjjdinaaGreatDoor.Ext
