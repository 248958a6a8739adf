/- Texts of this claim's author, joined and pruned by a program of his (pack.py): FMqttDown. -/
import Derived.Test.YtednegmjjjdinaaGreatDoorRows
import Derived.ProofKit
import Derived.Deep.DeepHandedRow
import Derived.SevenTiedAt
set_option maxRecDepth 100000
namespace Go.Proofs.YtednegmjjjdinaaGreatDoor.factsMqttDown
theorem tt {a b : Bool} (h : a = true) (h2 : b = true) : (a && b) = true := by rw [h, h2]; rfl
theorem q0 : (Rows.mqttDownRow.wf (OpenSpec.ofChange (OpenSpec.ofChange Rows.mqttDownSpec).bare)) = true := by kernel_rfl
theorem q1 : (laidOutB Tryz.pinned.checked.prog) = true := by kernel_rfl
theorem q2 : (mapsRowed Tryz.pinned.checked.prog) = true := by kernel_rfl
theorem q3 : (Tryz.f8.params.all (Tryz.pinned.checked.prog.readableRec ·)) = true := by kernel_rfl
theorem q4 : (namedTie Tryz.pinned.checked.prog Rows.mqttDownRow.named (OpenSpec.ofChange Rows.mqttDownSpec).bare.vars) = true := by kernel_rfl
theorem q5 : ((Rows.mqttDownRow.stops == [])) = true := by kernel_rfl
theorem q6 : ((Tryz.pinned.checked.prog.stops == [])) = true := by kernel_rfl
theorem q7 : ((Rows.mqttDownRow.knobs == [])) = true := by kernel_rfl
theorem q8 : ((Tryz.pinned.checked.prog.stopKnobs == [])) = true := by kernel_rfl
theorem q9 : ((Rows.mqttDownRow.inPlace == Tryz.pinned.checked.prog.inPlace 8)) = true := by kernel_rfl
theorem q10 : ((Rows.mqttDownRow.unfollowed == Tryz.pinned.checked.prog.unfollowed 8)) = true := by kernel_rfl
theorem q11 : ((Rows.mqttDownRow.recurses == Tryz.pinned.checked.prog.recurses 8)) = true := by kernel_rfl
theorem q12 : ((Rows.mqttDownRow.named == Tryz.pinned.checked.prog.varsNamed 8)) = true := by kernel_rfl
theorem q13 : ((Rows.mqttDownRow.maps == (Tryz.f8.params.toList ++ (OpenSpec.ofChange Rows.mqttDownSpec).bare.plain.varTypes Tryz.pinned.checked.prog).any (Tryz.pinned.checked.prog.mapsRec ·))) = true := by kernel_rfl
theorem q14 : ((Rows.mqttDownRow.ifaces == (Tryz.f8.params.toList ++ (OpenSpec.ofChange Rows.mqttDownSpec).bare.plain.varTypes Tryz.pinned.checked.prog).any (Tryz.pinned.checked.prog.ifacesRec ·))) = true := by kernel_rfl
theorem q15 : ((Rows.mqttDownRow.mapsOut == Tryz.pinned.checked.prog.mapsAmong Tryz.f8.resultTypes.toList)) = true := by kernel_rfl
theorem q16 : ((Rows.mqttDownRow.loops == (Tryz.f8.params.toList ++ (OpenSpec.ofChange Rows.mqttDownSpec).bare.plain.varTypes Tryz.pinned.checked.prog).any (Tryz.pinned.checked.prog.loopsFrom ·))) = true := by kernel_rfl
theorem q17 : ((Rows.mqttDownRow.wideKeys == (Tryz.f8.params.toList ++ (OpenSpec.ofChange Rows.mqttDownSpec).bare.plain.varTypes Tryz.pinned.checked.prog ++ Tryz.f8.resultTypes.toList).any (Tryz.pinned.checked.prog.wideKeysFrom ·))) = true := by kernel_rfl
theorem q18 : ((OpenSpec.ofChange Rows.mqttDownSpec).bare.vars.all (Tryz.pinned.checked.prog.varReadable ·)) = true := by kernel_rfl
theorem q19 : (Tryz.f8.resultTypes.all (fun t => Tryz.pinned.checked.prog.readableRec t && decide (t < Tryz.pinned.checked.prog.types.size))) = true := by kernel_rfl
theorem q20 : ((Rows.mqttDownRow.ifacesOut == Tryz.f8.resultTypes.toList.any (Tryz.pinned.checked.prog.ifacesRec ·))) = true := by kernel_rfl
theorem q21 : ((Rows.mqttDownRow.loopsOut == Tryz.f8.resultTypes.toList.any (Tryz.pinned.checked.prog.loopsFrom ·))) = true := by kernel_rfl
theorem q22 : ((Rows.mqttDownRow.plainKeys == Tryz.pinned.checked.prog.plainKeys)) = true := by kernel_rfl
theorem q23 : (Rows.mqttDownRow.shortTexts.isNone) = true := by kernel_rfl
theorem q24 : (Tryz.pinned.checked.prog.stopsHeard) = true := by kernel_rfl
theorem q25 : (Tryz.pinned.checked.prog.mayEnter) = true := by kernel_rfl
theorem q26 : ((Rows.mqttDownRow.lifted == Tryz.pinned.checked.prog.liftsFinal)) = true := by kernel_rfl
theorem q27 : ((Tryz.pinned.checked.prog.make == some Rows.mqttDownRow.make)) = true := by kernel_rfl
theorem q28 : ((Rows.mqttDownRow.kinds == (if Rows.mqttDownRow.domain.isEmpty then [] else Tryz.f8.params.toList.map fun t => match Tryz.pinned.checked.prog.underlying t with | some (.int k) => some k | _ => none))) = true := by kernel_rfl
theorem q29 : ((Rows.mqttDownRow.pinned == Rows.mqttDownRow.pinnedBy)) = true := by kernel_rfl
theorem q30 : ((Rows.mqttDownRow.veiled == (Tryz.f8.params.toList ++ (OpenSpec.ofChange Rows.mqttDownSpec).bare.plain.varTypes Tryz.pinned.checked.prog ++ Tryz.f8.resultTypes.toList).any (Tryz.pinned.checked.prog.veiledRec ·))) = true := by kernel_rfl
theorem q31 : (Rows.mqttDownRow.veiledFits Tryz.pinned.checked.prog Tryz.f8.params.toList (Tryz.f8.params.toList ++ (OpenSpec.ofChange Rows.mqttDownSpec).bare.plain.varTypes Tryz.pinned.checked.prog ++ Tryz.f8.resultTypes.toList)) = true := by kernel_rfl
theorem closed : joinedFacts Tryz.pinned.checked.prog 8 Tryz.f8 (OpenSpec.ofChange Rows.mqttDownSpec).bare Rows.mqttDownRow = true := by
 unfold joinedFacts
 exact (tt (tt (tt (tt (tt (tt (tt (tt (tt (tt (tt (tt (tt (tt (tt (tt (tt (tt (tt (tt (tt (tt (tt (tt (tt (tt (tt (tt (tt (tt (tt q0 q1) q2) q3) q4) q5) q6) q7) q8) q9) q10) q11) q12) q13) q14) q15) q16) q17) q18) q19) q20) q21) q22) q23) q24) q25) q26) q27) q28) q29) q30) q31)
end Go.Proofs.YtednegmjjjdinaaGreatDoor.factsMqttDown
