/-
  NARROWER THAN 'FOR EVERY INPUT', by the rows' own cells (each row's printed sentence says how): WorldRuns: laid · WorldNet: laid · ScriptRuns: laid · ScriptBound: laid.
  DERIVED. THE GIVEN ROWS OF THIS SEAT. 4 by the template 'for every input the law returns true; each argument reads behind the call as it read before'; 0 by the template 'total and deterministic' (their statements: YtlpaapcghcglpaaGreatDoorTotals.lean).
  GIVEN WITH THE SEED: the statements are not yours to turn. If you find one false, say at which input.
  Laid BY PROGRAM, IN A SANDBOX (cutbox-rows.mjs): the forced cells as the released guide's own fill.sh prints them over the translation ca3584fd2bef1564… (all of the seat's roots in one cut). By AI agents, Wed Nov 11 2026. No macro, syntax, notation, axiom, sorry.
-/
import Derived.Test.YtlpaapcghcglpaaGreatDoorChecked
import GoSem.PinnedTables
import GoSem.Claim
import GoSem.ClaimJoined
import GoSem.ClaimMapViews
import Derived.JoinedTies
import Derived.KernelRfl
namespace Go.Proofs.YtlpaapcghcglpaaGreatDoor
/- THE CELL 'sum', in the pinned program and in every row, IS THE sha256 OF THE DUMP (.gsa) THAT YtlpaapcghcglpaaGreatDoorProg.lean LOADS. Nothing in Lean hashes anything: it is a label: what it is worth is what the hold of that sum in a sandbox is worth. -/
noncomputable def Tryz.pinned : Pinned := { name := "ytlpaapcghcglpaagreatdoor", sum := "ca3584fd2bef15642750ffe1e07e3075582506d33374073d45bfa3b51f17bca2", checked := Tryz.checked }
namespace Rows
def none {H : Type} : Left H := { results := [], args := [] }

/- WHAT THE LISTED PACKAGE-LEVEL VARIABLES READ AS WHEN THE CALL BEGINS. Each datum BY PROGRAM (the guide's laid-datum.mjs) off the statement by which the dump's own 'gosem.cut.vars' lays the variable. In a bare row this is a premise. The card (YtlpaapcghcglpaaGreatDoorCards.lean) ties it to the program's text. -/
def laid_unicode_utf8_acceptRanges {H : Type} : DataW H := .agg [.agg [.lit (.int .u8 128), .lit (.int .u8 191)], .agg [.lit (.int .u8 160), .lit (.int .u8 191)], .agg [.lit (.int .u8 128), .lit (.int .u8 159)], .agg [.lit (.int .u8 144), .lit (.int .u8 191)], .agg [.lit (.int .u8 128), .lit (.int .u8 143)], .agg [.lit (.int .u8 0), .lit (.int .u8 0)], .agg [.lit (.int .u8 0), .lit (.int .u8 0)], .agg [.lit (.int .u8 0), .lit (.int .u8 0)], .agg [.lit (.int .u8 0), .lit (.int .u8 0)], .agg [.lit (.int .u8 0), .lit (.int .u8 0)], .agg [.lit (.int .u8 0), .lit (.int .u8 0)], .agg [.lit (.int .u8 0), .lit (.int .u8 0)], .agg [.lit (.int .u8 0), .lit (.int .u8 0)], .agg [.lit (.int .u8 0), .lit (.int .u8 0)], .agg [.lit (.int .u8 0), .lit (.int .u8 0)], .agg [.lit (.int .u8 0), .lit (.int .u8 0)]]
/-- One of Go's own tables, pinned by name: the form's constant. -/
def laid_unicode_utf8_first : DataW Unit := Go.Pinned.utf8First

/-- 'ammonitelaw24.WorldRuns': WHATEVER THE INPUT: true; the input reads as it did. -/
def worldRunsSpec : ChangeSpec := { name := "worldRuns", fn := fun _ => fun
  | [] => { results := [.lit (.bool true)], args := [] }
  | _ => none }
def worldRunsRow : OpenClaim := { program := "ytlpaapcghcglpaagreatdoor", sum := "ca3584fd2bef15642750ffe1e07e3075582506d33374073d45bfa3b51f17bca2", func := "ammonite/ammonitelaw24.WorldRuns", spec := "worldRuns", inPlace := ["internal/abi.NoEscape", "internal/bytealg.MakeNoZero", "internal/bytealg.IndexByteString", "maps.clone", "internal/bytealg.IndexString", "internal/bytealg.CountString"], unfollowed := true, recurses := true, named := ["internal/bytealg.MaxLen", "unicode/utf8.first", "unicode/utf8.acceptRanges"], plainKeys := false, apart := false, laid := [("unicode/utf8.acceptRanges", laid_unicode_utf8_acceptRanges), ("unicode/utf8.first", laid_unicode_utf8_first)] }
def WorldRunsSaid : Prop := worldRunsRow.holds Tryz.pinned (OpenSpec.ofChange worldRunsSpec)

/-- ITS FALSE NEIGHBOUR: 'it returns false'. Refute it at one input. -/
def worldRunsWrong : ChangeSpec := { name := "worldRuns", fn := fun _ => fun
  | [] => { results := [.lit (.bool false)], args := [] }
  | _ => none }
def WorldRunsWrongFalsely : Prop := worldRunsRow.holds Tryz.pinned (OpenSpec.ofChange worldRunsWrong)

/-- 'ammonitelaw24.WorldNet': WHATEVER THE INPUT: true; the input reads as it did. -/
def worldNetSpec : ChangeSpec := { name := "worldNet", fn := fun _ => fun
  | [d1, d2, d3] => { results := [.lit (.bool true)], args := [d1, d2, d3] }
  | _ => none }
def worldNetRow : OpenClaim := { program := "ytlpaapcghcglpaagreatdoor", sum := "ca3584fd2bef15642750ffe1e07e3075582506d33374073d45bfa3b51f17bca2", func := "ammonite/ammonitelaw24.WorldNet", spec := "worldNet", inPlace := ["internal/abi.NoEscape", "internal/bytealg.MakeNoZero", "internal/bytealg.IndexByteString", "maps.clone", "internal/bytealg.IndexString", "internal/bytealg.CountString"], unfollowed := true, recurses := true, named := ["internal/bytealg.MaxLen", "unicode/utf8.first", "unicode/utf8.acceptRanges"], plainKeys := false, apart := false, laid := [("unicode/utf8.acceptRanges", laid_unicode_utf8_acceptRanges), ("unicode/utf8.first", laid_unicode_utf8_first)] }
def WorldNetSaid : Prop := worldNetRow.holds Tryz.pinned (OpenSpec.ofChange worldNetSpec)

/-- ITS FALSE NEIGHBOUR: 'it returns false'. Refute it at one input. -/
def worldNetWrong : ChangeSpec := { name := "worldNet", fn := fun _ => fun
  | [d1, d2, d3] => { results := [.lit (.bool false)], args := [d1, d2, d3] }
  | _ => none }
def WorldNetWrongFalsely : Prop := worldNetRow.holds Tryz.pinned (OpenSpec.ofChange worldNetWrong)

/-- 'ammonitelaw25.ScriptRuns': WHATEVER THE INPUT: true; the input reads as it did. -/
def scriptRunsSpec : ChangeSpec := { name := "scriptRuns", fn := fun _ => fun
  | [] => { results := [.lit (.bool true)], args := [] }
  | _ => none }
def scriptRunsRow : OpenClaim := { program := "ytlpaapcghcglpaagreatdoor", sum := "ca3584fd2bef15642750ffe1e07e3075582506d33374073d45bfa3b51f17bca2", func := "ammonite/ammonitelaw25.ScriptRuns", spec := "scriptRuns", inPlace := ["internal/abi.NoEscape", "internal/bytealg.MakeNoZero", "internal/bytealg.IndexByteString", "maps.clone", "internal/bytealg.IndexString", "internal/bytealg.CountString", "internal/bytealg.abigen_runtime_cmpstring"], unfollowed := true, recurses := true, named := ["internal/bytealg.MaxLen", "unicode/utf8.first", "unicode/utf8.acceptRanges"], plainKeys := false, apart := false, laid := [("unicode/utf8.acceptRanges", laid_unicode_utf8_acceptRanges), ("unicode/utf8.first", laid_unicode_utf8_first)] }
def ScriptRunsSaid : Prop := scriptRunsRow.holds Tryz.pinned (OpenSpec.ofChange scriptRunsSpec)

/-- ITS FALSE NEIGHBOUR: 'it returns false'. Refute it at one input. -/
def scriptRunsWrong : ChangeSpec := { name := "scriptRuns", fn := fun _ => fun
  | [] => { results := [.lit (.bool false)], args := [] }
  | _ => none }
def ScriptRunsWrongFalsely : Prop := scriptRunsRow.holds Tryz.pinned (OpenSpec.ofChange scriptRunsWrong)

/-- 'ammonitelaw25.ScriptBound': WHATEVER THE INPUT: true; the input reads as it did. -/
def scriptBoundSpec : ChangeSpec := { name := "scriptBound", fn := fun _ => fun
  | [d] => { results := [.lit (.bool true)], args := [d] }
  | _ => none }
def scriptBoundRow : OpenClaim := { program := "ytlpaapcghcglpaagreatdoor", sum := "ca3584fd2bef15642750ffe1e07e3075582506d33374073d45bfa3b51f17bca2", func := "ammonite/ammonitelaw25.ScriptBound", spec := "scriptBound", inPlace := ["internal/abi.NoEscape", "internal/bytealg.MakeNoZero", "internal/bytealg.IndexByteString", "maps.clone", "internal/bytealg.IndexString", "internal/bytealg.CountString", "internal/bytealg.abigen_runtime_cmpstring"], unfollowed := true, recurses := true, named := ["internal/bytealg.MaxLen", "unicode/utf8.first", "unicode/utf8.acceptRanges"], plainKeys := false, apart := false, laid := [("unicode/utf8.acceptRanges", laid_unicode_utf8_acceptRanges), ("unicode/utf8.first", laid_unicode_utf8_first)] }
def ScriptBoundSaid : Prop := scriptBoundRow.holds Tryz.pinned (OpenSpec.ofChange scriptBoundSpec)

/-- ITS FALSE NEIGHBOUR: 'it returns false'. Refute it at one input. -/
def scriptBoundWrong : ChangeSpec := { name := "scriptBound", fn := fun _ => fun
  | [d] => { results := [.lit (.bool false)], args := [d] }
  | _ => none }
def ScriptBoundWrongFalsely : Prop := scriptBoundRow.holds Tryz.pinned (OpenSpec.ofChange scriptBoundWrong)

/- THE SECOND FORM. 'bulk': how many values and letters a reading holds, each counted each time it is reached (what is shared counts as often as it is met; a slice's spare places count too). A statement '..UptoSaid' is the law's where the arguments, and the package variables that the reading takes, are together of bulk at most 1048576: NARROWER than '..Said'. Prove '..Said' where nothing that the law and all that it calls make is longer than what came in: it says more and counts as full. Else prove '..UptoSaid'. A law counts once. -/
mutual
def uptoBulk {H : Type} : DataW H → Nat
  | .lit (.string bytes) => bytes.length + 1
  | .lit _ => 1
  | .nil => 1
  | .ptr d => uptoBulk d + 1
  | .slice elems spare => uptoBulkAll elems + uptoBulkAll spare + 1
  | .agg parts => uptoBulkAll parts + 1
  | .iface _ d => uptoBulk d + 1
  | .map entries => uptoBulkEntries entries + 1
  | .held _ => 1
def uptoBulkAll {H : Type} : List (DataW H) → Nat
  | [] => 0
  | d :: r => uptoBulk d + uptoBulkAll r
def uptoBulkEntries {H : Type} : List (Lit × DataW H) → Nat
  | [] => 0
  | x :: r => uptoBulkEntry x + uptoBulkEntries r
def uptoBulkEntry {H : Type} : Lit × DataW H → Nat
  | (.string bytes, d) => bytes.length + uptoBulk d + 1
  | (_, d) => uptoBulk d + 1
 end
def uptoSmall : (H : Type) → List (DataW H) → Bool := fun _ ds => decide (uptoBulkAll ds ≤ 1048576)
def OpenSpec.upto (s : _root_.Go.ChangeSpec) : _root_.Go.OpenSpec := { _root_.Go.OpenSpec.ofChange s with cond := some uptoSmall }

/-- 'ammonitelaw24.WorldRuns', WHERE WHAT IT READS IS OF BULK AT MOST 1048576: true; the input reads as it did. -/
def worldRunsUptoRow : OpenClaim := { program := "ytlpaapcghcglpaagreatdoor", sum := "ca3584fd2bef15642750ffe1e07e3075582506d33374073d45bfa3b51f17bca2", func := "ammonite/ammonitelaw24.WorldRuns", spec := "worldRuns", inPlace := ["internal/abi.NoEscape", "internal/bytealg.MakeNoZero", "internal/bytealg.IndexByteString", "maps.clone", "internal/bytealg.IndexString", "internal/bytealg.CountString"], unfollowed := true, recurses := true, named := ["internal/bytealg.MaxLen", "unicode/utf8.first", "unicode/utf8.acceptRanges"], plainKeys := false, apart := false, laid := [("unicode/utf8.acceptRanges", laid_unicode_utf8_acceptRanges), ("unicode/utf8.first", laid_unicode_utf8_first)], narrowed := true }
def WorldRunsUptoSaid : Prop := worldRunsUptoRow.holds Tryz.pinned (OpenSpec.upto worldRunsSpec)

/-- 'ammonitelaw24.WorldNet', WHERE WHAT IT READS IS OF BULK AT MOST 1048576: true; the input reads as it did. -/
def worldNetUptoRow : OpenClaim := { program := "ytlpaapcghcglpaagreatdoor", sum := "ca3584fd2bef15642750ffe1e07e3075582506d33374073d45bfa3b51f17bca2", func := "ammonite/ammonitelaw24.WorldNet", spec := "worldNet", inPlace := ["internal/abi.NoEscape", "internal/bytealg.MakeNoZero", "internal/bytealg.IndexByteString", "maps.clone", "internal/bytealg.IndexString", "internal/bytealg.CountString"], unfollowed := true, recurses := true, named := ["internal/bytealg.MaxLen", "unicode/utf8.first", "unicode/utf8.acceptRanges"], plainKeys := false, apart := false, laid := [("unicode/utf8.acceptRanges", laid_unicode_utf8_acceptRanges), ("unicode/utf8.first", laid_unicode_utf8_first)], narrowed := true }
def WorldNetUptoSaid : Prop := worldNetUptoRow.holds Tryz.pinned (OpenSpec.upto worldNetSpec)

/-- 'ammonitelaw25.ScriptRuns', WHERE WHAT IT READS IS OF BULK AT MOST 1048576: true; the input reads as it did. -/
def scriptRunsUptoRow : OpenClaim := { program := "ytlpaapcghcglpaagreatdoor", sum := "ca3584fd2bef15642750ffe1e07e3075582506d33374073d45bfa3b51f17bca2", func := "ammonite/ammonitelaw25.ScriptRuns", spec := "scriptRuns", inPlace := ["internal/abi.NoEscape", "internal/bytealg.MakeNoZero", "internal/bytealg.IndexByteString", "maps.clone", "internal/bytealg.IndexString", "internal/bytealg.CountString", "internal/bytealg.abigen_runtime_cmpstring"], unfollowed := true, recurses := true, named := ["internal/bytealg.MaxLen", "unicode/utf8.first", "unicode/utf8.acceptRanges"], plainKeys := false, apart := false, laid := [("unicode/utf8.acceptRanges", laid_unicode_utf8_acceptRanges), ("unicode/utf8.first", laid_unicode_utf8_first)], narrowed := true }
def ScriptRunsUptoSaid : Prop := scriptRunsUptoRow.holds Tryz.pinned (OpenSpec.upto scriptRunsSpec)

/-- 'ammonitelaw25.ScriptBound', WHERE WHAT IT READS IS OF BULK AT MOST 1048576: true; the input reads as it did. -/
def scriptBoundUptoRow : OpenClaim := { program := "ytlpaapcghcglpaagreatdoor", sum := "ca3584fd2bef15642750ffe1e07e3075582506d33374073d45bfa3b51f17bca2", func := "ammonite/ammonitelaw25.ScriptBound", spec := "scriptBound", inPlace := ["internal/abi.NoEscape", "internal/bytealg.MakeNoZero", "internal/bytealg.IndexByteString", "maps.clone", "internal/bytealg.IndexString", "internal/bytealg.CountString", "internal/bytealg.abigen_runtime_cmpstring"], unfollowed := true, recurses := true, named := ["internal/bytealg.MaxLen", "unicode/utf8.first", "unicode/utf8.acceptRanges"], plainKeys := false, apart := false, laid := [("unicode/utf8.acceptRanges", laid_unicode_utf8_acceptRanges), ("unicode/utf8.first", laid_unicode_utf8_first)], narrowed := true }
def ScriptBoundUptoSaid : Prop := scriptBoundUptoRow.holds Tryz.pinned (OpenSpec.upto scriptBoundSpec)

end Rows
end Go.Proofs.YtlpaapcghcglpaaGreatDoor
