/-
  DERIVED. GIVEN WITH THE SEED: THE CARDS: each row of YtednegmjjjdinaaGreatDoorRows.lean that lists a variable, with what it lists TIED to the program's text (the seventh form; the later family's looks); each row that meets fmt, with fmt's text TOLD by the authors' own Lean function (tested against real Go, not proved from fmt's source: count such statements apart). THE CARD IS WHAT COUNTS. Prove the row's statement (the work); the ties are given (YtednegmjjjdinaaGreatDoorTie.lean); close each card by the builder's one call (the guide's Derived/Test/ToyasCard.lean, 'card_holds'). Laid BY PROGRAM, IN A SANDBOX (cutbox-door.mjs). By AI agents, Wed Nov 11 2026. No macro, syntax, notation, axiom, sorry.
-/
import Derived.Test.YtednegmjjjdinaaGreatDoorRows
import GoSem.ClaimSeven
namespace Go.Proofs.YtednegmjjjdinaaGreatDoor
namespace Rows

/-- THE TIED CARD OF 'trivetlaw24.TwinJoins'. -/
def twinJoinsCard : Claim7 := { stood := { row := twinJoinsRow, standIns := [], harness := (true, "c60f14d414fde3e7ab39e88a328efa87a6fe90d8817dd891e834dfbf6b66239f"), looks := true }, kinds := [], alts := [], laidByText := true, laidKinds := [.data, .data, .data, .data, .sentinel, .sentinel, .pinned], laidTests := true, laidLooks := .later }
def TwinJoinsCardSaid : Prop := Claim7.holds Tryz.pinned (.plain (OpenSpec.ofChange twinJoinsSpec)) twinJoinsCard

/-- THE TIED CARD OF 'trivetlaw24.TwinSays'. -/
def twinSaysCard : Claim7 := { stood := { row := twinSaysRow, standIns := [], harness := (true, "c60f14d414fde3e7ab39e88a328efa87a6fe90d8817dd891e834dfbf6b66239f"), looks := true }, kinds := [], alts := [], laidByText := true, laidKinds := [.data, .data, .data, .data, .sentinel, .sentinel, .pinned], laidTests := true, laidLooks := .later }
def TwinSaysCardSaid : Prop := Claim7.holds Tryz.pinned (.plain (OpenSpec.ofChange twinSaysSpec)) twinSaysCard

/-- THE TIED CARD OF 'trivetlaw21.MqttChunks'. -/
def mqttChunksCard : Claim7 := { stood := { row := mqttChunksRow, standIns := [], harness := (true, "c60f14d414fde3e7ab39e88a328efa87a6fe90d8817dd891e834dfbf6b66239f"), looks := true }, kinds := [], alts := [], laidByText := true, laidKinds := [.data, .data, .data, .data, .sentinel, .sentinel, .pinned], laidTests := true, laidLooks := .later }
def MqttChunksCardSaid : Prop := Claim7.holds Tryz.pinned (.plain (OpenSpec.ofChange mqttChunksSpec)) mqttChunksCard

/-- THE TIED CARD OF 'trivetlaw21.MqttAcknowledges'. -/
def mqttAcknowledgesCard : Claim7 := { stood := { row := mqttAcknowledgesRow, standIns := [], harness := (true, "c60f14d414fde3e7ab39e88a328efa87a6fe90d8817dd891e834dfbf6b66239f"), looks := true }, kinds := [], alts := [], laidByText := true, laidKinds := [.data, .data, .data, .data, .sentinel, .sentinel, .pinned], laidTests := true, laidLooks := .later }
def MqttAcknowledgesCardSaid : Prop := Claim7.holds Tryz.pinned (.plain (OpenSpec.ofChange mqttAcknowledgesSpec)) mqttAcknowledgesCard

/-- THE TIED CARD OF 'trivetlaw21.MqttKeeps'. -/
def mqttKeepsCard : Claim7 := { stood := { row := mqttKeepsRow, standIns := [], harness := (true, "c60f14d414fde3e7ab39e88a328efa87a6fe90d8817dd891e834dfbf6b66239f"), looks := true }, kinds := [], alts := [], laidByText := true, laidKinds := [.data, .data, .data, .data, .sentinel, .sentinel, .pinned], laidTests := true, laidLooks := .later }
def MqttKeepsCardSaid : Prop := Claim7.holds Tryz.pinned (.plain (OpenSpec.ofChange mqttKeepsSpec)) mqttKeepsCard

/-- THE TIED CARD OF 'trivetlaw21.MqttDown'. -/
def mqttDownCard : Claim7 := { stood := { row := mqttDownRow, standIns := [], harness := (true, "c60f14d414fde3e7ab39e88a328efa87a6fe90d8817dd891e834dfbf6b66239f"), looks := true }, kinds := [], alts := [], laidByText := true, laidKinds := [.data, .data, .data, .data, .sentinel, .sentinel, .pinned], laidTests := true, laidLooks := .later }
def MqttDownCardSaid : Prop := Claim7.holds Tryz.pinned (.plain (OpenSpec.ofChange mqttDownSpec)) mqttDownCard

/-- THE TIED CARD OF 'trivetlaw21.MqttHears'. -/
def mqttHearsCard : Claim7 := { stood := { row := mqttHearsRow, standIns := [], harness := (true, "c60f14d414fde3e7ab39e88a328efa87a6fe90d8817dd891e834dfbf6b66239f"), looks := true }, kinds := [], alts := [], laidByText := true, laidKinds := [.data, .data, .data, .data, .sentinel, .sentinel, .pinned], laidTests := true, laidLooks := .later }
def MqttHearsCardSaid : Prop := Claim7.holds Tryz.pinned (.plain (OpenSpec.ofChange mqttHearsSpec)) mqttHearsCard

/-- THE SECOND FORM's CARD OF 'trivetlaw24.TwinJoins'. -/
def twinJoinsUptoCard : Claim7 := { stood := { row := twinJoinsUptoRow, standIns := [], harness := (true, "c60f14d414fde3e7ab39e88a328efa87a6fe90d8817dd891e834dfbf6b66239f"), looks := true }, kinds := [], alts := [], laidByText := true, laidKinds := [.data, .data, .data, .data, .sentinel, .sentinel, .pinned], laidTests := true, laidLooks := .later }
def TwinJoinsUptoCardSaid : Prop := Claim7.holds Tryz.pinned (.plain (OpenSpec.upto twinJoinsSpec)) twinJoinsUptoCard

/-- THE SECOND FORM's CARD OF 'trivetlaw24.TwinSays'. -/
def twinSaysUptoCard : Claim7 := { stood := { row := twinSaysUptoRow, standIns := [], harness := (true, "c60f14d414fde3e7ab39e88a328efa87a6fe90d8817dd891e834dfbf6b66239f"), looks := true }, kinds := [], alts := [], laidByText := true, laidKinds := [.data, .data, .data, .data, .sentinel, .sentinel, .pinned], laidTests := true, laidLooks := .later }
def TwinSaysUptoCardSaid : Prop := Claim7.holds Tryz.pinned (.plain (OpenSpec.upto twinSaysSpec)) twinSaysUptoCard

/-- THE SECOND FORM's CARD OF 'trivetlaw21.MqttChunks'. -/
def mqttChunksUptoCard : Claim7 := { stood := { row := mqttChunksUptoRow, standIns := [], harness := (true, "c60f14d414fde3e7ab39e88a328efa87a6fe90d8817dd891e834dfbf6b66239f"), looks := true }, kinds := [], alts := [], laidByText := true, laidKinds := [.data, .data, .data, .data, .sentinel, .sentinel, .pinned], laidTests := true, laidLooks := .later }
def MqttChunksUptoCardSaid : Prop := Claim7.holds Tryz.pinned (.plain (OpenSpec.upto mqttChunksSpec)) mqttChunksUptoCard

/-- THE SECOND FORM's CARD OF 'trivetlaw21.MqttAcknowledges'. -/
def mqttAcknowledgesUptoCard : Claim7 := { stood := { row := mqttAcknowledgesUptoRow, standIns := [], harness := (true, "c60f14d414fde3e7ab39e88a328efa87a6fe90d8817dd891e834dfbf6b66239f"), looks := true }, kinds := [], alts := [], laidByText := true, laidKinds := [.data, .data, .data, .data, .sentinel, .sentinel, .pinned], laidTests := true, laidLooks := .later }
def MqttAcknowledgesUptoCardSaid : Prop := Claim7.holds Tryz.pinned (.plain (OpenSpec.upto mqttAcknowledgesSpec)) mqttAcknowledgesUptoCard

/-- THE SECOND FORM's CARD OF 'trivetlaw21.MqttKeeps'. -/
def mqttKeepsUptoCard : Claim7 := { stood := { row := mqttKeepsUptoRow, standIns := [], harness := (true, "c60f14d414fde3e7ab39e88a328efa87a6fe90d8817dd891e834dfbf6b66239f"), looks := true }, kinds := [], alts := [], laidByText := true, laidKinds := [.data, .data, .data, .data, .sentinel, .sentinel, .pinned], laidTests := true, laidLooks := .later }
def MqttKeepsUptoCardSaid : Prop := Claim7.holds Tryz.pinned (.plain (OpenSpec.upto mqttKeepsSpec)) mqttKeepsUptoCard

/-- THE SECOND FORM's CARD OF 'trivetlaw21.MqttDown'. -/
def mqttDownUptoCard : Claim7 := { stood := { row := mqttDownUptoRow, standIns := [], harness := (true, "c60f14d414fde3e7ab39e88a328efa87a6fe90d8817dd891e834dfbf6b66239f"), looks := true }, kinds := [], alts := [], laidByText := true, laidKinds := [.data, .data, .data, .data, .sentinel, .sentinel, .pinned], laidTests := true, laidLooks := .later }
def MqttDownUptoCardSaid : Prop := Claim7.holds Tryz.pinned (.plain (OpenSpec.upto mqttDownSpec)) mqttDownUptoCard

/-- THE SECOND FORM's CARD OF 'trivetlaw21.MqttHears'. -/
def mqttHearsUptoCard : Claim7 := { stood := { row := mqttHearsUptoRow, standIns := [], harness := (true, "c60f14d414fde3e7ab39e88a328efa87a6fe90d8817dd891e834dfbf6b66239f"), looks := true }, kinds := [], alts := [], laidByText := true, laidKinds := [.data, .data, .data, .data, .sentinel, .sentinel, .pinned], laidTests := true, laidLooks := .later }
def MqttHearsUptoCardSaid : Prop := Claim7.holds Tryz.pinned (.plain (OpenSpec.upto mqttHearsSpec)) mqttHearsUptoCard
end Rows
end Go.Proofs.YtednegmjjjdinaaGreatDoor
