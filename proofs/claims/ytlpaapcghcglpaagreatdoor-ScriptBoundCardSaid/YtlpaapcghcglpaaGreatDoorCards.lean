/-
  DERIVED. GIVEN WITH THE SEED: THE CARDS: each row of YtlpaapcghcglpaaGreatDoorRows.lean that lists a variable, with what it lists TIED to the program's text (the seventh form; the later family's looks); each row that meets fmt, with fmt's text TOLD by the authors' own Lean function (tested against real Go, not proved from fmt's source: count such statements apart). THE CARD IS WHAT COUNTS. Prove the row's statement (the work); the ties are given (YtlpaapcghcglpaaGreatDoorTie.lean); close each card by the builder's one call (the guide's Derived/Test/ToyasCard.lean, 'card_holds'). Laid BY PROGRAM, IN A SANDBOX (cutbox-door.mjs). By AI agents, Wed Nov 11 2026. No macro, syntax, notation, axiom, sorry.
-/
import Derived.Test.YtlpaapcghcglpaaGreatDoorRows
import GoSem.ClaimSeven
namespace Go.Proofs.YtlpaapcghcglpaaGreatDoor
namespace Rows

/-- THE TIED CARD OF 'ammonitelaw24.WorldRuns'. -/
def worldRunsCard : Claim7 := { stood := { row := worldRunsRow, standIns := [], harness := (true, "d474db1321f24a0833f4c11a0a61df24e24810c7854dad58bbefcd848b284be8"), looks := true }, kinds := [], alts := [], laidByText := true, laidKinds := [.data, .pinned], laidTests := true, laidLooks := .later }
def WorldRunsCardSaid : Prop := Claim7.holds Tryz.pinned (.plain (OpenSpec.ofChange worldRunsSpec)) worldRunsCard

/-- THE TIED CARD OF 'ammonitelaw24.WorldNet'. -/
def worldNetCard : Claim7 := { stood := { row := worldNetRow, standIns := [], harness := (true, "d474db1321f24a0833f4c11a0a61df24e24810c7854dad58bbefcd848b284be8"), looks := true }, kinds := [], alts := [], laidByText := true, laidKinds := [.data, .pinned], laidTests := true, laidLooks := .later }
def WorldNetCardSaid : Prop := Claim7.holds Tryz.pinned (.plain (OpenSpec.ofChange worldNetSpec)) worldNetCard

/-- THE TIED CARD OF 'ammonitelaw25.ScriptRuns'. -/
def scriptRunsCard : Claim7 := { stood := { row := scriptRunsRow, standIns := [], harness := (true, "d474db1321f24a0833f4c11a0a61df24e24810c7854dad58bbefcd848b284be8"), looks := true }, kinds := [], alts := [], laidByText := true, laidKinds := [.data, .pinned], laidTests := true, laidLooks := .later }
def ScriptRunsCardSaid : Prop := Claim7.holds Tryz.pinned (.plain (OpenSpec.ofChange scriptRunsSpec)) scriptRunsCard

/-- THE TIED CARD OF 'ammonitelaw25.ScriptBound'. -/
def scriptBoundCard : Claim7 := { stood := { row := scriptBoundRow, standIns := [], harness := (true, "d474db1321f24a0833f4c11a0a61df24e24810c7854dad58bbefcd848b284be8"), looks := true }, kinds := [], alts := [], laidByText := true, laidKinds := [.data, .pinned], laidTests := true, laidLooks := .later }
def ScriptBoundCardSaid : Prop := Claim7.holds Tryz.pinned (.plain (OpenSpec.ofChange scriptBoundSpec)) scriptBoundCard

/-- THE SECOND FORM's CARD OF 'ammonitelaw24.WorldRuns'. -/
def worldRunsUptoCard : Claim7 := { stood := { row := worldRunsUptoRow, standIns := [], harness := (true, "d474db1321f24a0833f4c11a0a61df24e24810c7854dad58bbefcd848b284be8"), looks := true }, kinds := [], alts := [], laidByText := true, laidKinds := [.data, .pinned], laidTests := true, laidLooks := .later }
def WorldRunsUptoCardSaid : Prop := Claim7.holds Tryz.pinned (.plain (OpenSpec.upto worldRunsSpec)) worldRunsUptoCard

/-- THE SECOND FORM's CARD OF 'ammonitelaw24.WorldNet'. -/
def worldNetUptoCard : Claim7 := { stood := { row := worldNetUptoRow, standIns := [], harness := (true, "d474db1321f24a0833f4c11a0a61df24e24810c7854dad58bbefcd848b284be8"), looks := true }, kinds := [], alts := [], laidByText := true, laidKinds := [.data, .pinned], laidTests := true, laidLooks := .later }
def WorldNetUptoCardSaid : Prop := Claim7.holds Tryz.pinned (.plain (OpenSpec.upto worldNetSpec)) worldNetUptoCard

/-- THE SECOND FORM's CARD OF 'ammonitelaw25.ScriptRuns'. -/
def scriptRunsUptoCard : Claim7 := { stood := { row := scriptRunsUptoRow, standIns := [], harness := (true, "d474db1321f24a0833f4c11a0a61df24e24810c7854dad58bbefcd848b284be8"), looks := true }, kinds := [], alts := [], laidByText := true, laidKinds := [.data, .pinned], laidTests := true, laidLooks := .later }
def ScriptRunsUptoCardSaid : Prop := Claim7.holds Tryz.pinned (.plain (OpenSpec.upto scriptRunsSpec)) scriptRunsUptoCard

/-- THE SECOND FORM's CARD OF 'ammonitelaw25.ScriptBound'. -/
def scriptBoundUptoCard : Claim7 := { stood := { row := scriptBoundUptoRow, standIns := [], harness := (true, "d474db1321f24a0833f4c11a0a61df24e24810c7854dad58bbefcd848b284be8"), looks := true }, kinds := [], alts := [], laidByText := true, laidKinds := [.data, .pinned], laidTests := true, laidLooks := .later }
def ScriptBoundUptoCardSaid : Prop := Claim7.holds Tryz.pinned (.plain (OpenSpec.upto scriptBoundSpec)) scriptBoundUptoCard
end Rows
end Go.Proofs.YtlpaapcghcglpaaGreatDoor
