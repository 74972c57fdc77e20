/-
  No cell of these rows narrows 'for every input' (looked for: loops, veiled, ifaces, maps, wideKeys, modest, calm, conditions, laid).
  DERIVED. THE GIVEN ROWS OF THIS SEAT. 16 by the template 'for every input the law returns true; each argument reads behind the call as it read before'; 0 by the template 'total and deterministic' (their statements: YtidghmgaaenihaaTotals.lean).
  GIVEN WITH THE SEED: the statements are not yours to turn. If you find one false, say at which input.
  Laid BY PROGRAM, IN A SANDBOX (cutbox-rows.mjs): the forced cells as the released guide's own fill.sh prints them over the translation 031fbc9ae81bb1c0… (all of the seat's roots in one cut). By AI agents, Wed Nov 11 2026. No macro, syntax, notation, axiom, sorry.
-/
import Derived.Test.YtidghmgaaenihaaChecked
import GoSem.Claim
import GoSem.ClaimJoined
import GoSem.ClaimMapViews
import Derived.JoinedTies
import Derived.KernelRfl
namespace Go.Proofs.Ytidghmgaaenihaa
/- THE CELL 'sum', in the pinned program and in every row, IS THE sha256 OF THE DUMP (.gsa) THAT YtidghmgaaenihaaProg.lean LOADS. Nothing in Lean hashes anything: it is a label: what it is worth is what the hold of that sum in a sandbox is worth. -/
noncomputable def Try.pinned : Pinned := { name := "ytidghmgaaenihaa", sum := "031fbc9ae81bb1c0813df3072a2b512696f885e94867cac0dcdf856368faa40c", checked := Try.checked }
namespace Rows
def none {H : Type} : Left H := { results := [], args := [] }

/-- 'tegulalaw47.DurableCheck': WHATEVER THE INPUT: true; the input reads as it did. -/
def durableCheckSpec : ChangeSpec := { name := "durableCheck", fn := fun _ => fun
  | [d] => { results := [.lit (.bool true)], args := [d] }
  | _ => none }
def durableCheckRow : OpenClaim := { program := "ytidghmgaaenihaa", sum := "031fbc9ae81bb1c0813df3072a2b512696f885e94867cac0dcdf856368faa40c", func := "tegula/tegulalaw47.DurableCheck", spec := "durableCheck", unfollowed := true, recurses := true, plainKeys := false, apart := false }
def DurableCheckSaid : Prop := durableCheckRow.holds Try.pinned (OpenSpec.ofChange durableCheckSpec)

/-- ITS FALSE NEIGHBOUR: 'it returns false'. Refute it at one input. -/
def durableCheckWrong : ChangeSpec := { name := "durableCheck", fn := fun _ => fun
  | [d] => { results := [.lit (.bool false)], args := [d] }
  | _ => none }
def DurableCheckWrongFalsely : Prop := durableCheckRow.holds Try.pinned (OpenSpec.ofChange durableCheckWrong)

/-- 'tegulalaw47.DurableReplaced': WHATEVER THE INPUT: true; the input reads as it did. -/
def durableReplacedSpec : ChangeSpec := { name := "durableReplaced", fn := fun _ => fun
  | [d1, d2] => { results := [.lit (.bool true)], args := [d1, d2] }
  | _ => none }
def durableReplacedRow : OpenClaim := { program := "ytidghmgaaenihaa", sum := "031fbc9ae81bb1c0813df3072a2b512696f885e94867cac0dcdf856368faa40c", func := "tegula/tegulalaw47.DurableReplaced", spec := "durableReplaced", unfollowed := true, recurses := true, plainKeys := false, apart := false }
def DurableReplacedSaid : Prop := durableReplacedRow.holds Try.pinned (OpenSpec.ofChange durableReplacedSpec)

/-- ITS FALSE NEIGHBOUR: 'it returns false'. Refute it at one input. -/
def durableReplacedWrong : ChangeSpec := { name := "durableReplaced", fn := fun _ => fun
  | [d1, d2] => { results := [.lit (.bool false)], args := [d1, d2] }
  | _ => none }
def DurableReplacedWrongFalsely : Prop := durableReplacedRow.holds Try.pinned (OpenSpec.ofChange durableReplacedWrong)

/-- 'tegulalaw47.DurableFlushed': WHATEVER THE INPUT: true; the input reads as it did. -/
def durableFlushedSpec : ChangeSpec := { name := "durableFlushed", fn := fun _ => fun
  | [d1, d2, d3] => { results := [.lit (.bool true)], args := [d1, d2, d3] }
  | _ => none }
def durableFlushedRow : OpenClaim := { program := "ytidghmgaaenihaa", sum := "031fbc9ae81bb1c0813df3072a2b512696f885e94867cac0dcdf856368faa40c", func := "tegula/tegulalaw47.DurableFlushed", spec := "durableFlushed", unfollowed := true, recurses := true, plainKeys := false, apart := false }
def DurableFlushedSaid : Prop := durableFlushedRow.holds Try.pinned (OpenSpec.ofChange durableFlushedSpec)

/-- ITS FALSE NEIGHBOUR: 'it returns false'. Refute it at one input. -/
def durableFlushedWrong : ChangeSpec := { name := "durableFlushed", fn := fun _ => fun
  | [d1, d2, d3] => { results := [.lit (.bool false)], args := [d1, d2, d3] }
  | _ => none }
def DurableFlushedWrongFalsely : Prop := durableFlushedRow.holds Try.pinned (OpenSpec.ofChange durableFlushedWrong)

/-- 'tegulalaw47.DurableTorn': WHATEVER THE INPUT: true; the input reads as it did. -/
def durableTornSpec : ChangeSpec := { name := "durableTorn", fn := fun _ => fun
  | [d1, d2] => { results := [.lit (.bool true)], args := [d1, d2] }
  | _ => none }
def durableTornRow : OpenClaim := { program := "ytidghmgaaenihaa", sum := "031fbc9ae81bb1c0813df3072a2b512696f885e94867cac0dcdf856368faa40c", func := "tegula/tegulalaw47.DurableTorn", spec := "durableTorn", unfollowed := true, recurses := true, plainKeys := false, apart := false }
def DurableTornSaid : Prop := durableTornRow.holds Try.pinned (OpenSpec.ofChange durableTornSpec)

/-- ITS FALSE NEIGHBOUR: 'it returns false'. Refute it at one input. -/
def durableTornWrong : ChangeSpec := { name := "durableTorn", fn := fun _ => fun
  | [d1, d2] => { results := [.lit (.bool false)], args := [d1, d2] }
  | _ => none }
def DurableTornWrongFalsely : Prop := durableTornRow.holds Try.pinned (OpenSpec.ofChange durableTornWrong)

/-- 'tegulalaw47.DurableInvented': WHATEVER THE INPUT: true; the input reads as it did. -/
def durableInventedSpec : ChangeSpec := { name := "durableInvented", fn := fun _ => fun
  | [d1, d2] => { results := [.lit (.bool true)], args := [d1, d2] }
  | _ => none }
def durableInventedRow : OpenClaim := { program := "ytidghmgaaenihaa", sum := "031fbc9ae81bb1c0813df3072a2b512696f885e94867cac0dcdf856368faa40c", func := "tegula/tegulalaw47.DurableInvented", spec := "durableInvented", unfollowed := true, recurses := true, plainKeys := false, apart := false }
def DurableInventedSaid : Prop := durableInventedRow.holds Try.pinned (OpenSpec.ofChange durableInventedSpec)

/-- ITS FALSE NEIGHBOUR: 'it returns false'. Refute it at one input. -/
def durableInventedWrong : ChangeSpec := { name := "durableInvented", fn := fun _ => fun
  | [d1, d2] => { results := [.lit (.bool false)], args := [d1, d2] }
  | _ => none }
def DurableInventedWrongFalsely : Prop := durableInventedRow.holds Try.pinned (OpenSpec.ofChange durableInventedWrong)

/-- 'tegulalaw47.DurableSurvivors': WHATEVER THE INPUT: true; the input reads as it did. -/
def durableSurvivorsSpec : ChangeSpec := { name := "durableSurvivors", fn := fun _ => fun
  | [d] => { results := [.lit (.bool true)], args := [d] }
  | _ => none }
def durableSurvivorsRow : OpenClaim := { program := "ytidghmgaaenihaa", sum := "031fbc9ae81bb1c0813df3072a2b512696f885e94867cac0dcdf856368faa40c", func := "tegula/tegulalaw47.DurableSurvivors", spec := "durableSurvivors", unfollowed := true, recurses := true, plainKeys := false, apart := false }
def DurableSurvivorsSaid : Prop := durableSurvivorsRow.holds Try.pinned (OpenSpec.ofChange durableSurvivorsSpec)

/-- ITS FALSE NEIGHBOUR: 'it returns false'. Refute it at one input. -/
def durableSurvivorsWrong : ChangeSpec := { name := "durableSurvivors", fn := fun _ => fun
  | [d] => { results := [.lit (.bool false)], args := [d] }
  | _ => none }
def DurableSurvivorsWrongFalsely : Prop := durableSurvivorsRow.holds Try.pinned (OpenSpec.ofChange durableSurvivorsWrong)

/-- 'tegulalaw47.DurableStorage': WHATEVER THE INPUT: true; the input reads as it did. -/
def durableStorageSpec : ChangeSpec := { name := "durableStorage", fn := fun _ => fun
  | [d] => { results := [.lit (.bool true)], args := [d] }
  | _ => none }
def durableStorageRow : OpenClaim := { program := "ytidghmgaaenihaa", sum := "031fbc9ae81bb1c0813df3072a2b512696f885e94867cac0dcdf856368faa40c", func := "tegula/tegulalaw47.DurableStorage", spec := "durableStorage", unfollowed := true, recurses := true, plainKeys := false, apart := false }
def DurableStorageSaid : Prop := durableStorageRow.holds Try.pinned (OpenSpec.ofChange durableStorageSpec)

/-- ITS FALSE NEIGHBOUR: 'it returns false'. Refute it at one input. -/
def durableStorageWrong : ChangeSpec := { name := "durableStorage", fn := fun _ => fun
  | [d] => { results := [.lit (.bool false)], args := [d] }
  | _ => none }
def DurableStorageWrongFalsely : Prop := durableStorageRow.holds Try.pinned (OpenSpec.ofChange durableStorageWrong)

/-- 'tegulalaw45.HistoryOps': WHATEVER THE INPUT: true; the input reads as it did. -/
def historyOpsSpec : ChangeSpec := { name := "historyOps", fn := fun _ => fun
  | [d] => { results := [.lit (.bool true)], args := [d] }
  | _ => none }
def historyOpsRow : OpenClaim := { program := "ytidghmgaaenihaa", sum := "031fbc9ae81bb1c0813df3072a2b512696f885e94867cac0dcdf856368faa40c", func := "tegula/tegulalaw45.HistoryOps", spec := "historyOps", recurses := true, plainKeys := false, apart := false }
def HistoryOpsSaid : Prop := historyOpsRow.holds Try.pinned (OpenSpec.ofChange historyOpsSpec)

/-- ITS FALSE NEIGHBOUR: 'it returns false'. Refute it at one input. -/
def historyOpsWrong : ChangeSpec := { name := "historyOps", fn := fun _ => fun
  | [d] => { results := [.lit (.bool false)], args := [d] }
  | _ => none }
def HistoryOpsWrongFalsely : Prop := historyOpsRow.holds Try.pinned (OpenSpec.ofChange historyOpsWrong)

/-- 'tegulalaw45.HistoryRecords': WHATEVER THE INPUT: true; the input reads as it did. -/
def historyRecordsSpec : ChangeSpec := { name := "historyRecords", fn := fun _ => fun
  | [d] => { results := [.lit (.bool true)], args := [d] }
  | _ => none }
def historyRecordsRow : OpenClaim := { program := "ytidghmgaaenihaa", sum := "031fbc9ae81bb1c0813df3072a2b512696f885e94867cac0dcdf856368faa40c", func := "tegula/tegulalaw45.HistoryRecords", spec := "historyRecords", recurses := true, plainKeys := false, apart := false }
def HistoryRecordsSaid : Prop := historyRecordsRow.holds Try.pinned (OpenSpec.ofChange historyRecordsSpec)

/-- ITS FALSE NEIGHBOUR: 'it returns false'. Refute it at one input. -/
def historyRecordsWrong : ChangeSpec := { name := "historyRecords", fn := fun _ => fun
  | [d] => { results := [.lit (.bool false)], args := [d] }
  | _ => none }
def HistoryRecordsWrongFalsely : Prop := historyRecordsRow.holds Try.pinned (OpenSpec.ofChange historyRecordsWrong)

/-- 'tegulalaw45.HistoryPrefixes': WHATEVER THE INPUT: true; the input reads as it did. -/
def historyPrefixesSpec : ChangeSpec := { name := "historyPrefixes", fn := fun _ => fun
  | [d1, d2] => { results := [.lit (.bool true)], args := [d1, d2] }
  | _ => none }
def historyPrefixesRow : OpenClaim := { program := "ytidghmgaaenihaa", sum := "031fbc9ae81bb1c0813df3072a2b512696f885e94867cac0dcdf856368faa40c", func := "tegula/tegulalaw45.HistoryPrefixes", spec := "historyPrefixes", recurses := true, plainKeys := false, apart := false }
def HistoryPrefixesSaid : Prop := historyPrefixesRow.holds Try.pinned (OpenSpec.ofChange historyPrefixesSpec)

/-- ITS FALSE NEIGHBOUR: 'it returns false'. Refute it at one input. -/
def historyPrefixesWrong : ChangeSpec := { name := "historyPrefixes", fn := fun _ => fun
  | [d1, d2] => { results := [.lit (.bool false)], args := [d1, d2] }
  | _ => none }
def HistoryPrefixesWrongFalsely : Prop := historyPrefixesRow.holds Try.pinned (OpenSpec.ofChange historyPrefixesWrong)

/-- 'tegulalaw45.HistoryChanged': WHATEVER THE INPUT: true; the input reads as it did. -/
def historyChangedSpec : ChangeSpec := { name := "historyChanged", fn := fun _ => fun
  | [d1, d2, d3] => { results := [.lit (.bool true)], args := [d1, d2, d3] }
  | _ => none }
def historyChangedRow : OpenClaim := { program := "ytidghmgaaenihaa", sum := "031fbc9ae81bb1c0813df3072a2b512696f885e94867cac0dcdf856368faa40c", func := "tegula/tegulalaw45.HistoryChanged", spec := "historyChanged", recurses := true, plainKeys := false, apart := false }
def HistoryChangedSaid : Prop := historyChangedRow.holds Try.pinned (OpenSpec.ofChange historyChangedSpec)

/-- ITS FALSE NEIGHBOUR: 'it returns false'. Refute it at one input. -/
def historyChangedWrong : ChangeSpec := { name := "historyChanged", fn := fun _ => fun
  | [d1, d2, d3] => { results := [.lit (.bool false)], args := [d1, d2, d3] }
  | _ => none }
def HistoryChangedWrongFalsely : Prop := historyChangedRow.holds Try.pinned (OpenSpec.ofChange historyChangedWrong)

/-- 'tegulalaw45.HistoryNil': WHATEVER THE INPUT: true; the input reads as it did. -/
def historyNilSpec : ChangeSpec := { name := "historyNil", fn := fun _ => fun
  | [d] => { results := [.lit (.bool true)], args := [d] }
  | _ => none }
def historyNilRow : OpenClaim := { program := "ytidghmgaaenihaa", sum := "031fbc9ae81bb1c0813df3072a2b512696f885e94867cac0dcdf856368faa40c", func := "tegula/tegulalaw45.HistoryNil", spec := "historyNil", recurses := true, plainKeys := false, apart := false }
def HistoryNilSaid : Prop := historyNilRow.holds Try.pinned (OpenSpec.ofChange historyNilSpec)

/-- ITS FALSE NEIGHBOUR: 'it returns false'. Refute it at one input. -/
def historyNilWrong : ChangeSpec := { name := "historyNil", fn := fun _ => fun
  | [d] => { results := [.lit (.bool false)], args := [d] }
  | _ => none }
def HistoryNilWrongFalsely : Prop := historyNilRow.holds Try.pinned (OpenSpec.ofChange historyNilWrong)

/-- 'tegulalaw45.HistorySplit': WHATEVER THE INPUT: true; the input reads as it did. -/
def historySplitSpec : ChangeSpec := { name := "historySplit", fn := fun _ => fun
  | [d1, d2] => { results := [.lit (.bool true)], args := [d1, d2] }
  | _ => none }
def historySplitRow : OpenClaim := { program := "ytidghmgaaenihaa", sum := "031fbc9ae81bb1c0813df3072a2b512696f885e94867cac0dcdf856368faa40c", func := "tegula/tegulalaw45.HistorySplit", spec := "historySplit", unfollowed := true, recurses := true, plainKeys := false, apart := false }
def HistorySplitSaid : Prop := historySplitRow.holds Try.pinned (OpenSpec.ofChange historySplitSpec)

/-- ITS FALSE NEIGHBOUR: 'it returns false'. Refute it at one input. -/
def historySplitWrong : ChangeSpec := { name := "historySplit", fn := fun _ => fun
  | [d1, d2] => { results := [.lit (.bool false)], args := [d1, d2] }
  | _ => none }
def HistorySplitWrongFalsely : Prop := historySplitRow.holds Try.pinned (OpenSpec.ofChange historySplitWrong)

/-- 'tegulalaw45.HistoryValid': WHATEVER THE INPUT: true; the input reads as it did. -/
def historyValidSpec : ChangeSpec := { name := "historyValid", fn := fun _ => fun
  | [d] => { results := [.lit (.bool true)], args := [d] }
  | _ => none }
def historyValidRow : OpenClaim := { program := "ytidghmgaaenihaa", sum := "031fbc9ae81bb1c0813df3072a2b512696f885e94867cac0dcdf856368faa40c", func := "tegula/tegulalaw45.HistoryValid", spec := "historyValid", unfollowed := true, recurses := true, plainKeys := false, apart := false }
def HistoryValidSaid : Prop := historyValidRow.holds Try.pinned (OpenSpec.ofChange historyValidSpec)

/-- ITS FALSE NEIGHBOUR: 'it returns false'. Refute it at one input. -/
def historyValidWrong : ChangeSpec := { name := "historyValid", fn := fun _ => fun
  | [d] => { results := [.lit (.bool false)], args := [d] }
  | _ => none }
def HistoryValidWrongFalsely : Prop := historyValidRow.holds Try.pinned (OpenSpec.ofChange historyValidWrong)

/-- 'tegulalaw45.HistoryParts': WHATEVER THE INPUT: true; the input reads as it did. -/
def historyPartsSpec : ChangeSpec := { name := "historyParts", fn := fun _ => fun
  | [d] => { results := [.lit (.bool true)], args := [d] }
  | _ => none }
def historyPartsRow : OpenClaim := { program := "ytidghmgaaenihaa", sum := "031fbc9ae81bb1c0813df3072a2b512696f885e94867cac0dcdf856368faa40c", func := "tegula/tegulalaw45.HistoryParts", spec := "historyParts", unfollowed := true, recurses := true, plainKeys := false, apart := false }
def HistoryPartsSaid : Prop := historyPartsRow.holds Try.pinned (OpenSpec.ofChange historyPartsSpec)

/-- ITS FALSE NEIGHBOUR: 'it returns false'. Refute it at one input. -/
def historyPartsWrong : ChangeSpec := { name := "historyParts", fn := fun _ => fun
  | [d] => { results := [.lit (.bool false)], args := [d] }
  | _ => none }
def HistoryPartsWrongFalsely : Prop := historyPartsRow.holds Try.pinned (OpenSpec.ofChange historyPartsWrong)

/-- 'tegulalaw47.DurableLinear': WHATEVER THE INPUT: true; the input reads as it did. -/
def durableLinearSpec : ChangeSpec := { name := "durableLinear", fn := fun _ => fun
  | [d] => { results := [.lit (.bool true)], args := [d] }
  | _ => none }
def durableLinearRow : OpenClaim := { program := "ytidghmgaaenihaa", sum := "031fbc9ae81bb1c0813df3072a2b512696f885e94867cac0dcdf856368faa40c", func := "tegula/tegulalaw47.DurableLinear", spec := "durableLinear", unfollowed := true, recurses := true, plainKeys := false, apart := false }
def DurableLinearSaid : Prop := durableLinearRow.holds Try.pinned (OpenSpec.ofChange durableLinearSpec)

/-- ITS FALSE NEIGHBOUR: 'it returns false'. Refute it at one input. -/
def durableLinearWrong : ChangeSpec := { name := "durableLinear", fn := fun _ => fun
  | [d] => { results := [.lit (.bool false)], args := [d] }
  | _ => none }
def DurableLinearWrongFalsely : Prop := durableLinearRow.holds Try.pinned (OpenSpec.ofChange durableLinearWrong)

/- THE SECOND FORM. 'bulk': how many values and letters a reading holds, each counted each time it is reached (what is shared counts as often as it is met; a slice's spare places count too). A statement '..UptoSaid' is the law's where the arguments, and the package variables that the reading takes, are together of bulk at most 1048576: NARROWER than '..Said'. Prove '..Said' where nothing that the law and all that it calls make is longer than what came in: it says more and counts as full. Else prove '..UptoSaid'. A law counts once. -/
mutual
def uptoBulk {H : Type} : DataW H → Nat
  | .lit (.string bytes) => bytes.length + 1
  | .lit _ => 1
  | .nil => 1
  | .ptr d => uptoBulk d + 1
  | .slice elems spare => uptoBulkAll elems + uptoBulkAll spare + 1
  | .agg parts => uptoBulkAll parts + 1
  | .iface _ d => uptoBulk d + 1
  | .map entries => uptoBulkEntries entries + 1
  | .held _ => 1
def uptoBulkAll {H : Type} : List (DataW H) → Nat
  | [] => 0
  | d :: r => uptoBulk d + uptoBulkAll r
def uptoBulkEntries {H : Type} : List (Lit × DataW H) → Nat
  | [] => 0
  | x :: r => uptoBulkEntry x + uptoBulkEntries r
def uptoBulkEntry {H : Type} : Lit × DataW H → Nat
  | (.string bytes, d) => bytes.length + uptoBulk d + 1
  | (_, d) => uptoBulk d + 1
 end
def uptoSmall : (H : Type) → List (DataW H) → Bool := fun _ ds => decide (uptoBulkAll ds ≤ 1048576)
def OpenSpec.upto (s : _root_.Go.ChangeSpec) : _root_.Go.OpenSpec := { _root_.Go.OpenSpec.ofChange s with cond := some uptoSmall }

/-- 'tegulalaw47.DurableCheck', WHERE WHAT IT READS IS OF BULK AT MOST 1048576: true; the input reads as it did. -/
def durableCheckUptoRow : OpenClaim := { program := "ytidghmgaaenihaa", sum := "031fbc9ae81bb1c0813df3072a2b512696f885e94867cac0dcdf856368faa40c", func := "tegula/tegulalaw47.DurableCheck", spec := "durableCheck", unfollowed := true, recurses := true, plainKeys := false, apart := false, narrowed := true }
def DurableCheckUptoSaid : Prop := durableCheckUptoRow.holds Try.pinned (OpenSpec.upto durableCheckSpec)

/-- 'tegulalaw47.DurableReplaced', WHERE WHAT IT READS IS OF BULK AT MOST 1048576: true; the input reads as it did. -/
def durableReplacedUptoRow : OpenClaim := { program := "ytidghmgaaenihaa", sum := "031fbc9ae81bb1c0813df3072a2b512696f885e94867cac0dcdf856368faa40c", func := "tegula/tegulalaw47.DurableReplaced", spec := "durableReplaced", unfollowed := true, recurses := true, plainKeys := false, apart := false, narrowed := true }
def DurableReplacedUptoSaid : Prop := durableReplacedUptoRow.holds Try.pinned (OpenSpec.upto durableReplacedSpec)

/-- 'tegulalaw47.DurableFlushed', WHERE WHAT IT READS IS OF BULK AT MOST 1048576: true; the input reads as it did. -/
def durableFlushedUptoRow : OpenClaim := { program := "ytidghmgaaenihaa", sum := "031fbc9ae81bb1c0813df3072a2b512696f885e94867cac0dcdf856368faa40c", func := "tegula/tegulalaw47.DurableFlushed", spec := "durableFlushed", unfollowed := true, recurses := true, plainKeys := false, apart := false, narrowed := true }
def DurableFlushedUptoSaid : Prop := durableFlushedUptoRow.holds Try.pinned (OpenSpec.upto durableFlushedSpec)

/-- 'tegulalaw47.DurableTorn', WHERE WHAT IT READS IS OF BULK AT MOST 1048576: true; the input reads as it did. -/
def durableTornUptoRow : OpenClaim := { program := "ytidghmgaaenihaa", sum := "031fbc9ae81bb1c0813df3072a2b512696f885e94867cac0dcdf856368faa40c", func := "tegula/tegulalaw47.DurableTorn", spec := "durableTorn", unfollowed := true, recurses := true, plainKeys := false, apart := false, narrowed := true }
def DurableTornUptoSaid : Prop := durableTornUptoRow.holds Try.pinned (OpenSpec.upto durableTornSpec)

/-- 'tegulalaw47.DurableInvented', WHERE WHAT IT READS IS OF BULK AT MOST 1048576: true; the input reads as it did. -/
def durableInventedUptoRow : OpenClaim := { program := "ytidghmgaaenihaa", sum := "031fbc9ae81bb1c0813df3072a2b512696f885e94867cac0dcdf856368faa40c", func := "tegula/tegulalaw47.DurableInvented", spec := "durableInvented", unfollowed := true, recurses := true, plainKeys := false, apart := false, narrowed := true }
def DurableInventedUptoSaid : Prop := durableInventedUptoRow.holds Try.pinned (OpenSpec.upto durableInventedSpec)

/-- 'tegulalaw47.DurableSurvivors', WHERE WHAT IT READS IS OF BULK AT MOST 1048576: true; the input reads as it did. -/
def durableSurvivorsUptoRow : OpenClaim := { program := "ytidghmgaaenihaa", sum := "031fbc9ae81bb1c0813df3072a2b512696f885e94867cac0dcdf856368faa40c", func := "tegula/tegulalaw47.DurableSurvivors", spec := "durableSurvivors", unfollowed := true, recurses := true, plainKeys := false, apart := false, narrowed := true }
def DurableSurvivorsUptoSaid : Prop := durableSurvivorsUptoRow.holds Try.pinned (OpenSpec.upto durableSurvivorsSpec)

/-- 'tegulalaw47.DurableStorage', WHERE WHAT IT READS IS OF BULK AT MOST 1048576: true; the input reads as it did. -/
def durableStorageUptoRow : OpenClaim := { program := "ytidghmgaaenihaa", sum := "031fbc9ae81bb1c0813df3072a2b512696f885e94867cac0dcdf856368faa40c", func := "tegula/tegulalaw47.DurableStorage", spec := "durableStorage", unfollowed := true, recurses := true, plainKeys := false, apart := false, narrowed := true }
def DurableStorageUptoSaid : Prop := durableStorageUptoRow.holds Try.pinned (OpenSpec.upto durableStorageSpec)

/-- 'tegulalaw45.HistoryOps', WHERE WHAT IT READS IS OF BULK AT MOST 1048576: true; the input reads as it did. -/
def historyOpsUptoRow : OpenClaim := { program := "ytidghmgaaenihaa", sum := "031fbc9ae81bb1c0813df3072a2b512696f885e94867cac0dcdf856368faa40c", func := "tegula/tegulalaw45.HistoryOps", spec := "historyOps", recurses := true, plainKeys := false, apart := false, narrowed := true }
def HistoryOpsUptoSaid : Prop := historyOpsUptoRow.holds Try.pinned (OpenSpec.upto historyOpsSpec)

/-- 'tegulalaw45.HistoryRecords', WHERE WHAT IT READS IS OF BULK AT MOST 1048576: true; the input reads as it did. -/
def historyRecordsUptoRow : OpenClaim := { program := "ytidghmgaaenihaa", sum := "031fbc9ae81bb1c0813df3072a2b512696f885e94867cac0dcdf856368faa40c", func := "tegula/tegulalaw45.HistoryRecords", spec := "historyRecords", recurses := true, plainKeys := false, apart := false, narrowed := true }
def HistoryRecordsUptoSaid : Prop := historyRecordsUptoRow.holds Try.pinned (OpenSpec.upto historyRecordsSpec)

/-- 'tegulalaw45.HistoryPrefixes', WHERE WHAT IT READS IS OF BULK AT MOST 1048576: true; the input reads as it did. -/
def historyPrefixesUptoRow : OpenClaim := { program := "ytidghmgaaenihaa", sum := "031fbc9ae81bb1c0813df3072a2b512696f885e94867cac0dcdf856368faa40c", func := "tegula/tegulalaw45.HistoryPrefixes", spec := "historyPrefixes", recurses := true, plainKeys := false, apart := false, narrowed := true }
def HistoryPrefixesUptoSaid : Prop := historyPrefixesUptoRow.holds Try.pinned (OpenSpec.upto historyPrefixesSpec)

/-- 'tegulalaw45.HistoryChanged', WHERE WHAT IT READS IS OF BULK AT MOST 1048576: true; the input reads as it did. -/
def historyChangedUptoRow : OpenClaim := { program := "ytidghmgaaenihaa", sum := "031fbc9ae81bb1c0813df3072a2b512696f885e94867cac0dcdf856368faa40c", func := "tegula/tegulalaw45.HistoryChanged", spec := "historyChanged", recurses := true, plainKeys := false, apart := false, narrowed := true }
def HistoryChangedUptoSaid : Prop := historyChangedUptoRow.holds Try.pinned (OpenSpec.upto historyChangedSpec)

/-- 'tegulalaw45.HistoryNil', WHERE WHAT IT READS IS OF BULK AT MOST 1048576: true; the input reads as it did. -/
def historyNilUptoRow : OpenClaim := { program := "ytidghmgaaenihaa", sum := "031fbc9ae81bb1c0813df3072a2b512696f885e94867cac0dcdf856368faa40c", func := "tegula/tegulalaw45.HistoryNil", spec := "historyNil", recurses := true, plainKeys := false, apart := false, narrowed := true }
def HistoryNilUptoSaid : Prop := historyNilUptoRow.holds Try.pinned (OpenSpec.upto historyNilSpec)

/-- 'tegulalaw45.HistorySplit', WHERE WHAT IT READS IS OF BULK AT MOST 1048576: true; the input reads as it did. -/
def historySplitUptoRow : OpenClaim := { program := "ytidghmgaaenihaa", sum := "031fbc9ae81bb1c0813df3072a2b512696f885e94867cac0dcdf856368faa40c", func := "tegula/tegulalaw45.HistorySplit", spec := "historySplit", unfollowed := true, recurses := true, plainKeys := false, apart := false, narrowed := true }
def HistorySplitUptoSaid : Prop := historySplitUptoRow.holds Try.pinned (OpenSpec.upto historySplitSpec)

/-- 'tegulalaw45.HistoryValid', WHERE WHAT IT READS IS OF BULK AT MOST 1048576: true; the input reads as it did. -/
def historyValidUptoRow : OpenClaim := { program := "ytidghmgaaenihaa", sum := "031fbc9ae81bb1c0813df3072a2b512696f885e94867cac0dcdf856368faa40c", func := "tegula/tegulalaw45.HistoryValid", spec := "historyValid", unfollowed := true, recurses := true, plainKeys := false, apart := false, narrowed := true }
def HistoryValidUptoSaid : Prop := historyValidUptoRow.holds Try.pinned (OpenSpec.upto historyValidSpec)

/-- 'tegulalaw45.HistoryParts', WHERE WHAT IT READS IS OF BULK AT MOST 1048576: true; the input reads as it did. -/
def historyPartsUptoRow : OpenClaim := { program := "ytidghmgaaenihaa", sum := "031fbc9ae81bb1c0813df3072a2b512696f885e94867cac0dcdf856368faa40c", func := "tegula/tegulalaw45.HistoryParts", spec := "historyParts", unfollowed := true, recurses := true, plainKeys := false, apart := false, narrowed := true }
def HistoryPartsUptoSaid : Prop := historyPartsUptoRow.holds Try.pinned (OpenSpec.upto historyPartsSpec)

/-- 'tegulalaw47.DurableLinear', WHERE WHAT IT READS IS OF BULK AT MOST 1048576: true; the input reads as it did. -/
def durableLinearUptoRow : OpenClaim := { program := "ytidghmgaaenihaa", sum := "031fbc9ae81bb1c0813df3072a2b512696f885e94867cac0dcdf856368faa40c", func := "tegula/tegulalaw47.DurableLinear", spec := "durableLinear", unfollowed := true, recurses := true, plainKeys := false, apart := false, narrowed := true }
def DurableLinearUptoSaid : Prop := durableLinearUptoRow.holds Try.pinned (OpenSpec.upto durableLinearSpec)

end Rows
end Go.Proofs.Ytidghmgaaenihaa
