/- Texts of this claim's author, joined and pruned by a program of his (pack.py): FMqttAcknowledges. -/
import Derived.Test.YtednegmjjjdinaaGreatDoorRows
import Derived.ProofKit
import Derived.Deep.DeepHandedRow
import Derived.SevenTiedAt
set_option maxRecDepth 100000
namespace Go.Proofs.YtednegmjjjdinaaGreatDoor.factsMqttAcknowledges
theorem tt {a b : Bool} (h : a = true) (h2 : b = true) : (a && b) = true := by rw [h, h2]; rfl
theorem q0 : (Rows.mqttAcknowledgesRow.wf (OpenSpec.ofChange (OpenSpec.ofChange Rows.mqttAcknowledgesSpec).bare)) = true := by kernel_rfl
theorem q1 : (laidOutB Tryz.pinned.checked.prog) = true := by kernel_rfl
theorem q2 : (mapsRowed Tryz.pinned.checked.prog) = true := by kernel_rfl
theorem q3 : (Tryz.f6.params.all (Tryz.pinned.checked.prog.readableRec ·)) = true := by kernel_rfl
theorem q4 : (namedTie Tryz.pinned.checked.prog Rows.mqttAcknowledgesRow.named (OpenSpec.ofChange Rows.mqttAcknowledgesSpec).bare.vars) = true := by kernel_rfl
theorem q5 : ((Rows.mqttAcknowledgesRow.stops == [])) = true := by kernel_rfl
theorem q6 : ((Tryz.pinned.checked.prog.stops == [])) = true := by kernel_rfl
theorem q7 : ((Rows.mqttAcknowledgesRow.knobs == [])) = true := by kernel_rfl
theorem q8 : ((Tryz.pinned.checked.prog.stopKnobs == [])) = true := by kernel_rfl
theorem q9 : ((Rows.mqttAcknowledgesRow.inPlace == Tryz.pinned.checked.prog.inPlace 6)) = true := by kernel_rfl
theorem q10 : ((Rows.mqttAcknowledgesRow.unfollowed == Tryz.pinned.checked.prog.unfollowed 6)) = true := by kernel_rfl
theorem q11 : ((Rows.mqttAcknowledgesRow.recurses == Tryz.pinned.checked.prog.recurses 6)) = true := by kernel_rfl
theorem q12 : ((Rows.mqttAcknowledgesRow.named == Tryz.pinned.checked.prog.varsNamed 6)) = true := by kernel_rfl
theorem q13 : ((Rows.mqttAcknowledgesRow.maps == (Tryz.f6.params.toList ++ (OpenSpec.ofChange Rows.mqttAcknowledgesSpec).bare.plain.varTypes Tryz.pinned.checked.prog).any (Tryz.pinned.checked.prog.mapsRec ·))) = true := by kernel_rfl
theorem q14 : ((Rows.mqttAcknowledgesRow.ifaces == (Tryz.f6.params.toList ++ (OpenSpec.ofChange Rows.mqttAcknowledgesSpec).bare.plain.varTypes Tryz.pinned.checked.prog).any (Tryz.pinned.checked.prog.ifacesRec ·))) = true := by kernel_rfl
theorem q15 : ((Rows.mqttAcknowledgesRow.mapsOut == Tryz.pinned.checked.prog.mapsAmong Tryz.f6.resultTypes.toList)) = true := by kernel_rfl
theorem q16 : ((Rows.mqttAcknowledgesRow.loops == (Tryz.f6.params.toList ++ (OpenSpec.ofChange Rows.mqttAcknowledgesSpec).bare.plain.varTypes Tryz.pinned.checked.prog).any (Tryz.pinned.checked.prog.loopsFrom ·))) = true := by kernel_rfl
theorem q17 : ((Rows.mqttAcknowledgesRow.wideKeys == (Tryz.f6.params.toList ++ (OpenSpec.ofChange Rows.mqttAcknowledgesSpec).bare.plain.varTypes Tryz.pinned.checked.prog ++ Tryz.f6.resultTypes.toList).any (Tryz.pinned.checked.prog.wideKeysFrom ·))) = true := by kernel_rfl
theorem q18 : ((OpenSpec.ofChange Rows.mqttAcknowledgesSpec).bare.vars.all (Tryz.pinned.checked.prog.varReadable ·)) = true := by kernel_rfl
theorem q19 : (Tryz.f6.resultTypes.all (fun t => Tryz.pinned.checked.prog.readableRec t && decide (t < Tryz.pinned.checked.prog.types.size))) = true := by kernel_rfl
theorem q20 : ((Rows.mqttAcknowledgesRow.ifacesOut == Tryz.f6.resultTypes.toList.any (Tryz.pinned.checked.prog.ifacesRec ·))) = true := by kernel_rfl
theorem q21 : ((Rows.mqttAcknowledgesRow.loopsOut == Tryz.f6.resultTypes.toList.any (Tryz.pinned.checked.prog.loopsFrom ·))) = true := by kernel_rfl
theorem q22 : ((Rows.mqttAcknowledgesRow.plainKeys == Tryz.pinned.checked.prog.plainKeys)) = true := by kernel_rfl
theorem q23 : (Rows.mqttAcknowledgesRow.shortTexts.isNone) = true := by kernel_rfl
theorem q24 : (Tryz.pinned.checked.prog.stopsHeard) = true := by kernel_rfl
theorem q25 : (Tryz.pinned.checked.prog.mayEnter) = true := by kernel_rfl
theorem q26 : ((Rows.mqttAcknowledgesRow.lifted == Tryz.pinned.checked.prog.liftsFinal)) = true := by kernel_rfl
theorem q27 : ((Tryz.pinned.checked.prog.make == some Rows.mqttAcknowledgesRow.make)) = true := by kernel_rfl
theorem q28 : ((Rows.mqttAcknowledgesRow.kinds == (if Rows.mqttAcknowledgesRow.domain.isEmpty then [] else Tryz.f6.params.toList.map fun t => match Tryz.pinned.checked.prog.underlying t with | some (.int k) => some k | _ => none))) = true := by kernel_rfl
theorem q29 : ((Rows.mqttAcknowledgesRow.pinned == Rows.mqttAcknowledgesRow.pinnedBy)) = true := by kernel_rfl
theorem q30 : ((Rows.mqttAcknowledgesRow.veiled == (Tryz.f6.params.toList ++ (OpenSpec.ofChange Rows.mqttAcknowledgesSpec).bare.plain.varTypes Tryz.pinned.checked.prog ++ Tryz.f6.resultTypes.toList).any (Tryz.pinned.checked.prog.veiledRec ·))) = true := by kernel_rfl
theorem q31 : (Rows.mqttAcknowledgesRow.veiledFits Tryz.pinned.checked.prog Tryz.f6.params.toList (Tryz.f6.params.toList ++ (OpenSpec.ofChange Rows.mqttAcknowledgesSpec).bare.plain.varTypes Tryz.pinned.checked.prog ++ Tryz.f6.resultTypes.toList)) = true := by kernel_rfl
theorem closed : joinedFacts Tryz.pinned.checked.prog 6 Tryz.f6 (OpenSpec.ofChange Rows.mqttAcknowledgesSpec).bare Rows.mqttAcknowledgesRow = true := by
 unfold joinedFacts
 exact (tt (tt (tt (tt (tt (tt (tt (tt (tt (tt (tt (tt (tt (tt (tt (tt (tt (tt (tt (tt (tt (tt (tt (tt (tt (tt (tt (tt (tt (tt (tt q0 q1) q2) q3) q4) q5) q6) q7) q8) q9) q10) q11) q12) q13) q14) q15) q16) q17) q18) q19) q20) q21) q22) q23) q24) q25) q26) q27) q28) q29) q30) q31)
end Go.Proofs.YtednegmjjjdinaaGreatDoor.factsMqttAcknowledges
