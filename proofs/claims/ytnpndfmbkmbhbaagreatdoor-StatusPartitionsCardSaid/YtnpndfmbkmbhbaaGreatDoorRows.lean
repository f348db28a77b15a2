/-
  NARROWER THAN 'FOR EVERY INPUT', by the rows' own cells (each row's printed sentence says how): StatusTwins: laid · StatusNewest: laid · StatusDeltas: laid · StatusStale: laid · StatusPartitions: laid · StatusIndirect: laid.
  DERIVED. THE GIVEN ROWS OF THIS SEAT. 6 by the template 'for every input the law returns true; each argument reads behind the call as it read before'; 0 by the template 'total and deterministic' (their statements: YtnpndfmbkmbhbaaGreatDoorTotals.lean).
  GIVEN WITH THE SEED: the statements are not yours to turn. If you find one false, say at which input.
  Laid BY PROGRAM, IN A SANDBOX (cutbox-rows.mjs): the forced cells as the released guide's own fill.sh prints them over the translation 1272bd82f6391f3d… (all of the seat's roots in one cut). By AI agents, Wed Nov 11 2026. No macro, syntax, notation, axiom, sorry.
-/
import Derived.Test.YtnpndfmbkmbhbaaGreatDoorChecked
import GoSem.PinnedTables
import GoSem.Claim
import GoSem.ClaimJoined
import GoSem.ClaimMapViews
import Derived.JoinedTies
import Derived.KernelRfl
namespace Go.Proofs.YtnpndfmbkmbhbaaGreatDoor
/- THE CELL 'sum', in the pinned program and in every row, IS THE sha256 OF THE DUMP (.gsa) THAT YtnpndfmbkmbhbaaGreatDoorProg.lean LOADS. Nothing in Lean hashes anything: it is a label: what it is worth is what the hold of that sum in a sandbox is worth. -/
noncomputable def Tryz.pinned : Pinned := { name := "ytnpndfmbkmbhbaagreatdoor", sum := "1272bd82f6391f3da9a7b24d2e05772faad21102be856de7fca7ea782ba1d2c2", checked := Tryz.checked }
namespace Rows
def none {H : Type} : Left H := { results := [], args := [] }

/- WHAT THE LISTED PACKAGE-LEVEL VARIABLES READ AS WHEN THE CALL BEGINS. Each datum BY PROGRAM (the guide's laid-datum.mjs) off the statement by which the dump's own 'gosem.cut.vars' lays the variable. In a bare row this is a premise. The card (YtnpndfmbkmbhbaaGreatDoorCards.lean) ties it to the program's text. -/
def laid_unicode_utf8_acceptRanges {H : Type} : DataW H := .agg [.agg [.lit (.int .u8 128), .lit (.int .u8 191)], .agg [.lit (.int .u8 160), .lit (.int .u8 191)], .agg [.lit (.int .u8 128), .lit (.int .u8 159)], .agg [.lit (.int .u8 144), .lit (.int .u8 191)], .agg [.lit (.int .u8 128), .lit (.int .u8 143)], .agg [.lit (.int .u8 0), .lit (.int .u8 0)], .agg [.lit (.int .u8 0), .lit (.int .u8 0)], .agg [.lit (.int .u8 0), .lit (.int .u8 0)], .agg [.lit (.int .u8 0), .lit (.int .u8 0)], .agg [.lit (.int .u8 0), .lit (.int .u8 0)], .agg [.lit (.int .u8 0), .lit (.int .u8 0)], .agg [.lit (.int .u8 0), .lit (.int .u8 0)], .agg [.lit (.int .u8 0), .lit (.int .u8 0)], .agg [.lit (.int .u8 0), .lit (.int .u8 0)], .agg [.lit (.int .u8 0), .lit (.int .u8 0)], .agg [.lit (.int .u8 0), .lit (.int .u8 0)]]
/-- One of Go's own tables, pinned by name: the form's constant. -/
def laid_unicode_utf8_first : DataW Unit := Go.Pinned.utf8First

/-- 'certpathlaw28.StatusTwins': WHATEVER THE INPUT: true; the input reads as it did. -/
def statusTwinsSpec : ChangeSpec := { name := "statusTwins", fn := fun _ => fun
  | [d1, d2, d3] => { results := [.lit (.bool true)], args := [d1, d2, d3] }
  | _ => none }
def statusTwinsRow : OpenClaim := { program := "ytnpndfmbkmbhbaagreatdoor", sum := "1272bd82f6391f3da9a7b24d2e05772faad21102be856de7fca7ea782ba1d2c2", func := "certpath/certpathlaw28.StatusTwins", spec := "statusTwins", inPlace := ["internal/bytealg.IndexByteString", "internal/bytealg.IndexString", "internal/bytealg.CountString"], unfollowed := true, recurses := true, named := ["internal/bytealg.MaxLen", "unicode/utf8.first", "unicode/utf8.acceptRanges"], apart := false, laid := [("unicode/utf8.acceptRanges", laid_unicode_utf8_acceptRanges), ("unicode/utf8.first", laid_unicode_utf8_first)] }
def StatusTwinsSaid : Prop := statusTwinsRow.holds Tryz.pinned (OpenSpec.ofChange statusTwinsSpec)

/-- ITS FALSE NEIGHBOUR: 'it returns false'. Refute it at one input. -/
def statusTwinsWrong : ChangeSpec := { name := "statusTwins", fn := fun _ => fun
  | [d1, d2, d3] => { results := [.lit (.bool false)], args := [d1, d2, d3] }
  | _ => none }
def StatusTwinsWrongFalsely : Prop := statusTwinsRow.holds Tryz.pinned (OpenSpec.ofChange statusTwinsWrong)

/-- 'certpathlaw28.StatusNewest': WHATEVER THE INPUT: true; the input reads as it did. -/
def statusNewestSpec : ChangeSpec := { name := "statusNewest", fn := fun _ => fun
  | [d] => { results := [.lit (.bool true)], args := [d] }
  | _ => none }
def statusNewestRow : OpenClaim := { program := "ytnpndfmbkmbhbaagreatdoor", sum := "1272bd82f6391f3da9a7b24d2e05772faad21102be856de7fca7ea782ba1d2c2", func := "certpath/certpathlaw28.StatusNewest", spec := "statusNewest", inPlace := ["internal/bytealg.IndexByteString", "internal/bytealg.IndexString", "internal/bytealg.CountString"], unfollowed := true, recurses := true, named := ["internal/bytealg.MaxLen", "unicode/utf8.first", "unicode/utf8.acceptRanges"], apart := false, laid := [("unicode/utf8.acceptRanges", laid_unicode_utf8_acceptRanges), ("unicode/utf8.first", laid_unicode_utf8_first)] }
def StatusNewestSaid : Prop := statusNewestRow.holds Tryz.pinned (OpenSpec.ofChange statusNewestSpec)

/-- ITS FALSE NEIGHBOUR: 'it returns false'. Refute it at one input. -/
def statusNewestWrong : ChangeSpec := { name := "statusNewest", fn := fun _ => fun
  | [d] => { results := [.lit (.bool false)], args := [d] }
  | _ => none }
def StatusNewestWrongFalsely : Prop := statusNewestRow.holds Tryz.pinned (OpenSpec.ofChange statusNewestWrong)

/-- 'certpathlaw28.StatusDeltas': WHATEVER THE INPUT: true; the input reads as it did. -/
def statusDeltasSpec : ChangeSpec := { name := "statusDeltas", fn := fun _ => fun
  | [d1, d2, d3, d4, d5] => { results := [.lit (.bool true)], args := [d1, d2, d3, d4, d5] }
  | _ => none }
def statusDeltasRow : OpenClaim := { program := "ytnpndfmbkmbhbaagreatdoor", sum := "1272bd82f6391f3da9a7b24d2e05772faad21102be856de7fca7ea782ba1d2c2", func := "certpath/certpathlaw28.StatusDeltas", spec := "statusDeltas", inPlace := ["internal/bytealg.IndexByteString", "internal/bytealg.IndexString", "internal/bytealg.CountString"], unfollowed := true, recurses := true, named := ["internal/bytealg.MaxLen", "unicode/utf8.first", "unicode/utf8.acceptRanges"], apart := false, laid := [("unicode/utf8.acceptRanges", laid_unicode_utf8_acceptRanges), ("unicode/utf8.first", laid_unicode_utf8_first)] }
def StatusDeltasSaid : Prop := statusDeltasRow.holds Tryz.pinned (OpenSpec.ofChange statusDeltasSpec)

/-- ITS FALSE NEIGHBOUR: 'it returns false'. Refute it at one input. -/
def statusDeltasWrong : ChangeSpec := { name := "statusDeltas", fn := fun _ => fun
  | [d1, d2, d3, d4, d5] => { results := [.lit (.bool false)], args := [d1, d2, d3, d4, d5] }
  | _ => none }
def StatusDeltasWrongFalsely : Prop := statusDeltasRow.holds Tryz.pinned (OpenSpec.ofChange statusDeltasWrong)

/-- 'certpathlaw28.StatusStale': WHATEVER THE INPUT: true; the input reads as it did. -/
def statusStaleSpec : ChangeSpec := { name := "statusStale", fn := fun _ => fun
  | [d1, d2] => { results := [.lit (.bool true)], args := [d1, d2] }
  | _ => none }
def statusStaleRow : OpenClaim := { program := "ytnpndfmbkmbhbaagreatdoor", sum := "1272bd82f6391f3da9a7b24d2e05772faad21102be856de7fca7ea782ba1d2c2", func := "certpath/certpathlaw28.StatusStale", spec := "statusStale", inPlace := ["internal/bytealg.IndexByteString", "internal/bytealg.IndexString", "internal/bytealg.CountString"], unfollowed := true, recurses := true, named := ["internal/bytealg.MaxLen", "unicode/utf8.first", "unicode/utf8.acceptRanges"], apart := false, laid := [("unicode/utf8.acceptRanges", laid_unicode_utf8_acceptRanges), ("unicode/utf8.first", laid_unicode_utf8_first)] }
def StatusStaleSaid : Prop := statusStaleRow.holds Tryz.pinned (OpenSpec.ofChange statusStaleSpec)

/-- ITS FALSE NEIGHBOUR: 'it returns false'. Refute it at one input. -/
def statusStaleWrong : ChangeSpec := { name := "statusStale", fn := fun _ => fun
  | [d1, d2] => { results := [.lit (.bool false)], args := [d1, d2] }
  | _ => none }
def StatusStaleWrongFalsely : Prop := statusStaleRow.holds Tryz.pinned (OpenSpec.ofChange statusStaleWrong)

/-- 'certpathlaw28.StatusPartitions': WHATEVER THE INPUT: true; the input reads as it did. -/
def statusPartitionsSpec : ChangeSpec := { name := "statusPartitions", fn := fun _ => fun
  | [d1, d2, d3, d4] => { results := [.lit (.bool true)], args := [d1, d2, d3, d4] }
  | _ => none }
def statusPartitionsRow : OpenClaim := { program := "ytnpndfmbkmbhbaagreatdoor", sum := "1272bd82f6391f3da9a7b24d2e05772faad21102be856de7fca7ea782ba1d2c2", func := "certpath/certpathlaw28.StatusPartitions", spec := "statusPartitions", inPlace := ["internal/bytealg.IndexByteString", "internal/bytealg.IndexString", "internal/bytealg.CountString"], unfollowed := true, recurses := true, named := ["internal/bytealg.MaxLen", "unicode/utf8.first", "unicode/utf8.acceptRanges"], apart := false, laid := [("unicode/utf8.acceptRanges", laid_unicode_utf8_acceptRanges), ("unicode/utf8.first", laid_unicode_utf8_first)] }
def StatusPartitionsSaid : Prop := statusPartitionsRow.holds Tryz.pinned (OpenSpec.ofChange statusPartitionsSpec)

/-- ITS FALSE NEIGHBOUR: 'it returns false'. Refute it at one input. -/
def statusPartitionsWrong : ChangeSpec := { name := "statusPartitions", fn := fun _ => fun
  | [d1, d2, d3, d4] => { results := [.lit (.bool false)], args := [d1, d2, d3, d4] }
  | _ => none }
def StatusPartitionsWrongFalsely : Prop := statusPartitionsRow.holds Tryz.pinned (OpenSpec.ofChange statusPartitionsWrong)

/-- 'certpathlaw28.StatusIndirect': WHATEVER THE INPUT: true; the input reads as it did. -/
def statusIndirectSpec : ChangeSpec := { name := "statusIndirect", fn := fun _ => fun
  | [d1, d2, d3, d4] => { results := [.lit (.bool true)], args := [d1, d2, d3, d4] }
  | _ => none }
def statusIndirectRow : OpenClaim := { program := "ytnpndfmbkmbhbaagreatdoor", sum := "1272bd82f6391f3da9a7b24d2e05772faad21102be856de7fca7ea782ba1d2c2", func := "certpath/certpathlaw28.StatusIndirect", spec := "statusIndirect", inPlace := ["internal/bytealg.IndexByteString", "internal/bytealg.IndexString", "internal/bytealg.CountString"], unfollowed := true, recurses := true, named := ["internal/bytealg.MaxLen", "unicode/utf8.first", "unicode/utf8.acceptRanges"], apart := false, laid := [("unicode/utf8.acceptRanges", laid_unicode_utf8_acceptRanges), ("unicode/utf8.first", laid_unicode_utf8_first)] }
def StatusIndirectSaid : Prop := statusIndirectRow.holds Tryz.pinned (OpenSpec.ofChange statusIndirectSpec)

/-- ITS FALSE NEIGHBOUR: 'it returns false'. Refute it at one input. -/
def statusIndirectWrong : ChangeSpec := { name := "statusIndirect", fn := fun _ => fun
  | [d1, d2, d3, d4] => { results := [.lit (.bool false)], args := [d1, d2, d3, d4] }
  | _ => none }
def StatusIndirectWrongFalsely : Prop := statusIndirectRow.holds Tryz.pinned (OpenSpec.ofChange statusIndirectWrong)

/- THE SECOND FORM. 'bulk': how many values and letters a reading holds, each counted each time it is reached (what is shared counts as often as it is met; a slice's spare places count too). A statement '..UptoSaid' is the law's where the arguments, and the package variables that the reading takes, are together of bulk at most 1048576: NARROWER than '..Said'. Prove '..Said' where nothing that the law and all that it calls make is longer than what came in: it says more and counts as full. Else prove '..UptoSaid'. A law counts once. -/
mutual
def uptoBulk {H : Type} : DataW H → Nat
  | .lit (.string bytes) => bytes.length + 1
  | .lit _ => 1
  | .nil => 1
  | .ptr d => uptoBulk d + 1
  | .slice elems spare => uptoBulkAll elems + uptoBulkAll spare + 1
  | .agg parts => uptoBulkAll parts + 1
  | .iface _ d => uptoBulk d + 1
  | .map entries => uptoBulkEntries entries + 1
  | .held _ => 1
def uptoBulkAll {H : Type} : List (DataW H) → Nat
  | [] => 0
  | d :: r => uptoBulk d + uptoBulkAll r
def uptoBulkEntries {H : Type} : List (Lit × DataW H) → Nat
  | [] => 0
  | x :: r => uptoBulkEntry x + uptoBulkEntries r
def uptoBulkEntry {H : Type} : Lit × DataW H → Nat
  | (.string bytes, d) => bytes.length + uptoBulk d + 1
  | (_, d) => uptoBulk d + 1
 end
def uptoSmall : (H : Type) → List (DataW H) → Bool := fun _ ds => decide (uptoBulkAll ds ≤ 1048576)
def OpenSpec.upto (s : _root_.Go.ChangeSpec) : _root_.Go.OpenSpec := { _root_.Go.OpenSpec.ofChange s with cond := some uptoSmall }

/-- 'certpathlaw28.StatusTwins', WHERE WHAT IT READS IS OF BULK AT MOST 1048576: true; the input reads as it did. -/
def statusTwinsUptoRow : OpenClaim := { program := "ytnpndfmbkmbhbaagreatdoor", sum := "1272bd82f6391f3da9a7b24d2e05772faad21102be856de7fca7ea782ba1d2c2", func := "certpath/certpathlaw28.StatusTwins", spec := "statusTwins", inPlace := ["internal/bytealg.IndexByteString", "internal/bytealg.IndexString", "internal/bytealg.CountString"], unfollowed := true, recurses := true, named := ["internal/bytealg.MaxLen", "unicode/utf8.first", "unicode/utf8.acceptRanges"], apart := false, laid := [("unicode/utf8.acceptRanges", laid_unicode_utf8_acceptRanges), ("unicode/utf8.first", laid_unicode_utf8_first)], narrowed := true }
def StatusTwinsUptoSaid : Prop := statusTwinsUptoRow.holds Tryz.pinned (OpenSpec.upto statusTwinsSpec)

/-- 'certpathlaw28.StatusNewest', WHERE WHAT IT READS IS OF BULK AT MOST 1048576: true; the input reads as it did. -/
def statusNewestUptoRow : OpenClaim := { program := "ytnpndfmbkmbhbaagreatdoor", sum := "1272bd82f6391f3da9a7b24d2e05772faad21102be856de7fca7ea782ba1d2c2", func := "certpath/certpathlaw28.StatusNewest", spec := "statusNewest", inPlace := ["internal/bytealg.IndexByteString", "internal/bytealg.IndexString", "internal/bytealg.CountString"], unfollowed := true, recurses := true, named := ["internal/bytealg.MaxLen", "unicode/utf8.first", "unicode/utf8.acceptRanges"], apart := false, laid := [("unicode/utf8.acceptRanges", laid_unicode_utf8_acceptRanges), ("unicode/utf8.first", laid_unicode_utf8_first)], narrowed := true }
def StatusNewestUptoSaid : Prop := statusNewestUptoRow.holds Tryz.pinned (OpenSpec.upto statusNewestSpec)

/-- 'certpathlaw28.StatusDeltas', WHERE WHAT IT READS IS OF BULK AT MOST 1048576: true; the input reads as it did. -/
def statusDeltasUptoRow : OpenClaim := { program := "ytnpndfmbkmbhbaagreatdoor", sum := "1272bd82f6391f3da9a7b24d2e05772faad21102be856de7fca7ea782ba1d2c2", func := "certpath/certpathlaw28.StatusDeltas", spec := "statusDeltas", inPlace := ["internal/bytealg.IndexByteString", "internal/bytealg.IndexString", "internal/bytealg.CountString"], unfollowed := true, recurses := true, named := ["internal/bytealg.MaxLen", "unicode/utf8.first", "unicode/utf8.acceptRanges"], apart := false, laid := [("unicode/utf8.acceptRanges", laid_unicode_utf8_acceptRanges), ("unicode/utf8.first", laid_unicode_utf8_first)], narrowed := true }
def StatusDeltasUptoSaid : Prop := statusDeltasUptoRow.holds Tryz.pinned (OpenSpec.upto statusDeltasSpec)

/-- 'certpathlaw28.StatusStale', WHERE WHAT IT READS IS OF BULK AT MOST 1048576: true; the input reads as it did. -/
def statusStaleUptoRow : OpenClaim := { program := "ytnpndfmbkmbhbaagreatdoor", sum := "1272bd82f6391f3da9a7b24d2e05772faad21102be856de7fca7ea782ba1d2c2", func := "certpath/certpathlaw28.StatusStale", spec := "statusStale", inPlace := ["internal/bytealg.IndexByteString", "internal/bytealg.IndexString", "internal/bytealg.CountString"], unfollowed := true, recurses := true, named := ["internal/bytealg.MaxLen", "unicode/utf8.first", "unicode/utf8.acceptRanges"], apart := false, laid := [("unicode/utf8.acceptRanges", laid_unicode_utf8_acceptRanges), ("unicode/utf8.first", laid_unicode_utf8_first)], narrowed := true }
def StatusStaleUptoSaid : Prop := statusStaleUptoRow.holds Tryz.pinned (OpenSpec.upto statusStaleSpec)

/-- 'certpathlaw28.StatusPartitions', WHERE WHAT IT READS IS OF BULK AT MOST 1048576: true; the input reads as it did. -/
def statusPartitionsUptoRow : OpenClaim := { program := "ytnpndfmbkmbhbaagreatdoor", sum := "1272bd82f6391f3da9a7b24d2e05772faad21102be856de7fca7ea782ba1d2c2", func := "certpath/certpathlaw28.StatusPartitions", spec := "statusPartitions", inPlace := ["internal/bytealg.IndexByteString", "internal/bytealg.IndexString", "internal/bytealg.CountString"], unfollowed := true, recurses := true, named := ["internal/bytealg.MaxLen", "unicode/utf8.first", "unicode/utf8.acceptRanges"], apart := false, laid := [("unicode/utf8.acceptRanges", laid_unicode_utf8_acceptRanges), ("unicode/utf8.first", laid_unicode_utf8_first)], narrowed := true }
def StatusPartitionsUptoSaid : Prop := statusPartitionsUptoRow.holds Tryz.pinned (OpenSpec.upto statusPartitionsSpec)

/-- 'certpathlaw28.StatusIndirect', WHERE WHAT IT READS IS OF BULK AT MOST 1048576: true; the input reads as it did. -/
def statusIndirectUptoRow : OpenClaim := { program := "ytnpndfmbkmbhbaagreatdoor", sum := "1272bd82f6391f3da9a7b24d2e05772faad21102be856de7fca7ea782ba1d2c2", func := "certpath/certpathlaw28.StatusIndirect", spec := "statusIndirect", inPlace := ["internal/bytealg.IndexByteString", "internal/bytealg.IndexString", "internal/bytealg.CountString"], unfollowed := true, recurses := true, named := ["internal/bytealg.MaxLen", "unicode/utf8.first", "unicode/utf8.acceptRanges"], apart := false, laid := [("unicode/utf8.acceptRanges", laid_unicode_utf8_acceptRanges), ("unicode/utf8.first", laid_unicode_utf8_first)], narrowed := true }
def StatusIndirectUptoSaid : Prop := statusIndirectUptoRow.holds Tryz.pinned (OpenSpec.upto statusIndirectSpec)

end Rows
end Go.Proofs.YtnpndfmbkmbhbaaGreatDoor
