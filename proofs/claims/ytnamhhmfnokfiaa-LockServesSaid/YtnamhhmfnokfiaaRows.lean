/-
  No cell of these rows narrows 'for every input' (looked for: loops, veiled, ifaces, maps, wideKeys, modest, calm, conditions, laid).
  DERIVED. THE GIVEN ROWS OF THIS SEAT. 12 by the template 'for every input the law returns true; each argument reads behind the call as it read before'; 0 by the template 'total and deterministic' (their statements: YtnamhhmfnokfiaaTotals.lean).
  GIVEN WITH THE SEED: the statements are not yours to turn. If you find one false, say at which input.
  Laid BY PROGRAM, IN A SANDBOX (cutbox-rows.mjs): the forced cells as the released guide's own fill.sh prints them over the translation e8713bb600988f90… (all of the seat's roots in one cut). By AI agents, Wed Nov 11 2026. No macro, syntax, notation, axiom, sorry.
-/
import Derived.Test.YtnamhhmfnokfiaaChecked
import GoSem.Claim
import GoSem.ClaimJoined
import GoSem.ClaimMapViews
import Derived.JoinedTies
import Derived.KernelRfl
namespace Go.Proofs.Ytnamhhmfnokfiaa
/- THE CELL 'sum', in the pinned program and in every row, IS THE sha256 OF THE DUMP (.gsa) THAT YtnamhhmfnokfiaaProg.lean LOADS. Nothing in Lean hashes anything: it is a label: what it is worth is what the hold of that sum in a sandbox is worth. -/
noncomputable def Try.pinned : Pinned := { name := "ytnamhhmfnokfiaa", sum := "e8713bb600988f900cc64e438712f2917e0a0699d8ac1c8da9b1cee7da484c67", checked := Try.checked }
namespace Rows
def none {H : Type} : Left H := { results := [], args := [] }

/-- 'quiltworklaw13.WatchAll': WHATEVER THE INPUT: true; the input reads as it did. -/
def watchAllSpec : ChangeSpec := { name := "watchAll", fn := fun _ => fun
  | [d] => { results := [.lit (.bool true)], args := [d] }
  | _ => none }
def watchAllRow : OpenClaim := { program := "ytnamhhmfnokfiaa", sum := "e8713bb600988f900cc64e438712f2917e0a0699d8ac1c8da9b1cee7da484c67", func := "quiltwork/quiltworklaw13.WatchAll", spec := "watchAll", unfollowed := true, recurses := true, apart := false }
def WatchAllSaid : Prop := watchAllRow.holds Try.pinned (OpenSpec.ofChange watchAllSpec)

/-- ITS FALSE NEIGHBOUR: 'it returns false'. Refute it at one input. -/
def watchAllWrong : ChangeSpec := { name := "watchAll", fn := fun _ => fun
  | [d] => { results := [.lit (.bool false)], args := [d] }
  | _ => none }
def WatchAllWrongFalsely : Prop := watchAllRow.holds Try.pinned (OpenSpec.ofChange watchAllWrong)

/-- 'quiltworklaw13.WatchGaps': WHATEVER THE INPUT: true; the input reads as it did. -/
def watchGapsSpec : ChangeSpec := { name := "watchGaps", fn := fun _ => fun
  | [d1, d2] => { results := [.lit (.bool true)], args := [d1, d2] }
  | _ => none }
def watchGapsRow : OpenClaim := { program := "ytnamhhmfnokfiaa", sum := "e8713bb600988f900cc64e438712f2917e0a0699d8ac1c8da9b1cee7da484c67", func := "quiltwork/quiltworklaw13.WatchGaps", spec := "watchGaps", unfollowed := true, recurses := true, apart := false }
def WatchGapsSaid : Prop := watchGapsRow.holds Try.pinned (OpenSpec.ofChange watchGapsSpec)

/-- ITS FALSE NEIGHBOUR: 'it returns false'. Refute it at one input. -/
def watchGapsWrong : ChangeSpec := { name := "watchGaps", fn := fun _ => fun
  | [d1, d2] => { results := [.lit (.bool false)], args := [d1, d2] }
  | _ => none }
def WatchGapsWrongFalsely : Prop := watchGapsRow.holds Try.pinned (OpenSpec.ofChange watchGapsWrong)

/-- 'quiltworklaw13.WatchNone': WHATEVER THE INPUT: true; the input reads as it did. -/
def watchNoneSpec : ChangeSpec := { name := "watchNone", fn := fun _ => fun
  | [d1, d2] => { results := [.lit (.bool true)], args := [d1, d2] }
  | _ => none }
def watchNoneRow : OpenClaim := { program := "ytnamhhmfnokfiaa", sum := "e8713bb600988f900cc64e438712f2917e0a0699d8ac1c8da9b1cee7da484c67", func := "quiltwork/quiltworklaw13.WatchNone", spec := "watchNone", unfollowed := true, recurses := true, apart := false }
def WatchNoneSaid : Prop := watchNoneRow.holds Try.pinned (OpenSpec.ofChange watchNoneSpec)

/-- ITS FALSE NEIGHBOUR: 'it returns false'. Refute it at one input. -/
def watchNoneWrong : ChangeSpec := { name := "watchNone", fn := fun _ => fun
  | [d1, d2] => { results := [.lit (.bool false)], args := [d1, d2] }
  | _ => none }
def WatchNoneWrongFalsely : Prop := watchNoneRow.holds Try.pinned (OpenSpec.ofChange watchNoneWrong)

/-- 'quiltworklaw13.WatchOwn': WHATEVER THE INPUT: true; the input reads as it did. -/
def watchOwnSpec : ChangeSpec := { name := "watchOwn", fn := fun _ => fun
  | [d] => { results := [.lit (.bool true)], args := [d] }
  | _ => none }
def watchOwnRow : OpenClaim := { program := "ytnamhhmfnokfiaa", sum := "e8713bb600988f900cc64e438712f2917e0a0699d8ac1c8da9b1cee7da484c67", func := "quiltwork/quiltworklaw13.WatchOwn", spec := "watchOwn", unfollowed := true, recurses := true, apart := false }
def WatchOwnSaid : Prop := watchOwnRow.holds Try.pinned (OpenSpec.ofChange watchOwnSpec)

/-- ITS FALSE NEIGHBOUR: 'it returns false'. Refute it at one input. -/
def watchOwnWrong : ChangeSpec := { name := "watchOwn", fn := fun _ => fun
  | [d] => { results := [.lit (.bool false)], args := [d] }
  | _ => none }
def WatchOwnWrongFalsely : Prop := watchOwnRow.holds Try.pinned (OpenSpec.ofChange watchOwnWrong)

/-- 'quiltworklaw13.WatchParts': WHATEVER THE INPUT: true; the input reads as it did. -/
def watchPartsSpec : ChangeSpec := { name := "watchParts", fn := fun _ => fun
  | [d1, d2, d3] => { results := [.lit (.bool true)], args := [d1, d2, d3] }
  | _ => none }
def watchPartsRow : OpenClaim := { program := "ytnamhhmfnokfiaa", sum := "e8713bb600988f900cc64e438712f2917e0a0699d8ac1c8da9b1cee7da484c67", func := "quiltwork/quiltworklaw13.WatchParts", spec := "watchParts", unfollowed := true, recurses := true, apart := false }
def WatchPartsSaid : Prop := watchPartsRow.holds Try.pinned (OpenSpec.ofChange watchPartsSpec)

/-- ITS FALSE NEIGHBOUR: 'it returns false'. Refute it at one input. -/
def watchPartsWrong : ChangeSpec := { name := "watchParts", fn := fun _ => fun
  | [d1, d2, d3] => { results := [.lit (.bool false)], args := [d1, d2, d3] }
  | _ => none }
def WatchPartsWrongFalsely : Prop := watchPartsRow.holds Try.pinned (OpenSpec.ofChange watchPartsWrong)

/-- 'quiltworklaw12.LockModes': WHATEVER THE INPUT: true; the input reads as it did. -/
def lockModesSpec : ChangeSpec := { name := "lockModes", fn := fun _ => fun
  | [d1, d2, d3] => { results := [.lit (.bool true)], args := [d1, d2, d3] }
  | _ => none }
def lockModesRow : OpenClaim := { program := "ytnamhhmfnokfiaa", sum := "e8713bb600988f900cc64e438712f2917e0a0699d8ac1c8da9b1cee7da484c67", func := "quiltwork/quiltworklaw12.LockModes", spec := "lockModes", inPlace := ["slices.overlaps[quiltwork/lock.want]", "maps.clone"], unfollowed := true, recurses := true, apart := false }
def LockModesSaid : Prop := lockModesRow.holds Try.pinned (OpenSpec.ofChange lockModesSpec)

/-- ITS FALSE NEIGHBOUR: 'it returns false'. Refute it at one input. -/
def lockModesWrong : ChangeSpec := { name := "lockModes", fn := fun _ => fun
  | [d1, d2, d3] => { results := [.lit (.bool false)], args := [d1, d2, d3] }
  | _ => none }
def LockModesWrongFalsely : Prop := lockModesRow.holds Try.pinned (OpenSpec.ofChange lockModesWrong)

/-- 'quiltworklaw12.LockAll': WHATEVER THE INPUT: true; the input reads as it did. -/
def lockAllSpec : ChangeSpec := { name := "lockAll", fn := fun _ => fun
  | [d] => { results := [.lit (.bool true)], args := [d] }
  | _ => none }
def lockAllRow : OpenClaim := { program := "ytnamhhmfnokfiaa", sum := "e8713bb600988f900cc64e438712f2917e0a0699d8ac1c8da9b1cee7da484c67", func := "quiltwork/quiltworklaw12.LockAll", spec := "lockAll", inPlace := ["slices.overlaps[quiltwork/lock.want]", "maps.clone"], unfollowed := true, recurses := true, apart := false }
def LockAllSaid : Prop := lockAllRow.holds Try.pinned (OpenSpec.ofChange lockAllSpec)

/-- ITS FALSE NEIGHBOUR: 'it returns false'. Refute it at one input. -/
def lockAllWrong : ChangeSpec := { name := "lockAll", fn := fun _ => fun
  | [d] => { results := [.lit (.bool false)], args := [d] }
  | _ => none }
def LockAllWrongFalsely : Prop := lockAllRow.holds Try.pinned (OpenSpec.ofChange lockAllWrong)

/-- 'quiltworklaw12.LockFits': WHATEVER THE INPUT: true; the input reads as it did. -/
def lockFitsSpec : ChangeSpec := { name := "lockFits", fn := fun _ => fun
  | [d] => { results := [.lit (.bool true)], args := [d] }
  | _ => none }
def lockFitsRow : OpenClaim := { program := "ytnamhhmfnokfiaa", sum := "e8713bb600988f900cc64e438712f2917e0a0699d8ac1c8da9b1cee7da484c67", func := "quiltwork/quiltworklaw12.LockFits", spec := "lockFits", inPlace := ["slices.overlaps[quiltwork/lock.want]", "maps.clone"], unfollowed := true, recurses := true, apart := false }
def LockFitsSaid : Prop := lockFitsRow.holds Try.pinned (OpenSpec.ofChange lockFitsSpec)

/-- ITS FALSE NEIGHBOUR: 'it returns false'. Refute it at one input. -/
def lockFitsWrong : ChangeSpec := { name := "lockFits", fn := fun _ => fun
  | [d] => { results := [.lit (.bool false)], args := [d] }
  | _ => none }
def LockFitsWrongFalsely : Prop := lockFitsRow.holds Try.pinned (OpenSpec.ofChange lockFitsWrong)

/-- 'quiltworklaw12.LockStuck': WHATEVER THE INPUT: true; the input reads as it did. -/
def lockStuckSpec : ChangeSpec := { name := "lockStuck", fn := fun _ => fun
  | [d] => { results := [.lit (.bool true)], args := [d] }
  | _ => none }
def lockStuckRow : OpenClaim := { program := "ytnamhhmfnokfiaa", sum := "e8713bb600988f900cc64e438712f2917e0a0699d8ac1c8da9b1cee7da484c67", func := "quiltwork/quiltworklaw12.LockStuck", spec := "lockStuck", inPlace := ["slices.overlaps[quiltwork/lock.want]", "maps.clone"], unfollowed := true, recurses := true, apart := false }
def LockStuckSaid : Prop := lockStuckRow.holds Try.pinned (OpenSpec.ofChange lockStuckSpec)

/-- ITS FALSE NEIGHBOUR: 'it returns false'. Refute it at one input. -/
def lockStuckWrong : ChangeSpec := { name := "lockStuck", fn := fun _ => fun
  | [d] => { results := [.lit (.bool false)], args := [d] }
  | _ => none }
def LockStuckWrongFalsely : Prop := lockStuckRow.holds Try.pinned (OpenSpec.ofChange lockStuckWrong)

/-- 'quiltworklaw12.LockRises': WHATEVER THE INPUT: true; the input reads as it did. -/
def lockRisesSpec : ChangeSpec := { name := "lockRises", fn := fun _ => fun
  | [d] => { results := [.lit (.bool true)], args := [d] }
  | _ => none }
def lockRisesRow : OpenClaim := { program := "ytnamhhmfnokfiaa", sum := "e8713bb600988f900cc64e438712f2917e0a0699d8ac1c8da9b1cee7da484c67", func := "quiltwork/quiltworklaw12.LockRises", spec := "lockRises", inPlace := ["slices.overlaps[quiltwork/lock.want]", "maps.clone"], unfollowed := true, recurses := true, apart := false }
def LockRisesSaid : Prop := lockRisesRow.holds Try.pinned (OpenSpec.ofChange lockRisesSpec)

/-- ITS FALSE NEIGHBOUR: 'it returns false'. Refute it at one input. -/
def lockRisesWrong : ChangeSpec := { name := "lockRises", fn := fun _ => fun
  | [d] => { results := [.lit (.bool false)], args := [d] }
  | _ => none }
def LockRisesWrongFalsely : Prop := lockRisesRow.holds Try.pinned (OpenSpec.ofChange lockRisesWrong)

/-- 'quiltworklaw12.LockServes': WHATEVER THE INPUT: true; the input reads as it did. -/
def lockServesSpec : ChangeSpec := { name := "lockServes", fn := fun _ => fun
  | [d] => { results := [.lit (.bool true)], args := [d] }
  | _ => none }
def lockServesRow : OpenClaim := { program := "ytnamhhmfnokfiaa", sum := "e8713bb600988f900cc64e438712f2917e0a0699d8ac1c8da9b1cee7da484c67", func := "quiltwork/quiltworklaw12.LockServes", spec := "lockServes", inPlace := ["slices.overlaps[quiltwork/lock.want]", "maps.clone"], unfollowed := true, recurses := true, apart := false }
def LockServesSaid : Prop := lockServesRow.holds Try.pinned (OpenSpec.ofChange lockServesSpec)

/-- ITS FALSE NEIGHBOUR: 'it returns false'. Refute it at one input. -/
def lockServesWrong : ChangeSpec := { name := "lockServes", fn := fun _ => fun
  | [d] => { results := [.lit (.bool false)], args := [d] }
  | _ => none }
def LockServesWrongFalsely : Prop := lockServesRow.holds Try.pinned (OpenSpec.ofChange lockServesWrong)

/-- 'quiltworklaw12.LockAlone': WHATEVER THE INPUT: true; the input reads as it did. -/
def lockAloneSpec : ChangeSpec := { name := "lockAlone", fn := fun _ => fun
  | [d] => { results := [.lit (.bool true)], args := [d] }
  | _ => none }
def lockAloneRow : OpenClaim := { program := "ytnamhhmfnokfiaa", sum := "e8713bb600988f900cc64e438712f2917e0a0699d8ac1c8da9b1cee7da484c67", func := "quiltwork/quiltworklaw12.LockAlone", spec := "lockAlone", inPlace := ["slices.overlaps[quiltwork/lock.want]", "maps.clone"], unfollowed := true, recurses := true, apart := false }
def LockAloneSaid : Prop := lockAloneRow.holds Try.pinned (OpenSpec.ofChange lockAloneSpec)

/-- ITS FALSE NEIGHBOUR: 'it returns false'. Refute it at one input. -/
def lockAloneWrong : ChangeSpec := { name := "lockAlone", fn := fun _ => fun
  | [d] => { results := [.lit (.bool false)], args := [d] }
  | _ => none }
def LockAloneWrongFalsely : Prop := lockAloneRow.holds Try.pinned (OpenSpec.ofChange lockAloneWrong)

/- THE SECOND FORM. 'bulk': how many values and letters a reading holds, each counted each time it is reached (what is shared counts as often as it is met; a slice's spare places count too). A statement '..UptoSaid' is the law's where the arguments, and the package variables that the reading takes, are together of bulk at most 1048576: NARROWER than '..Said'. Prove '..Said' where nothing that the law and all that it calls make is longer than what came in: it says more and counts as full. Else prove '..UptoSaid'. A law counts once. -/
mutual
def uptoBulk {H : Type} : DataW H → Nat
  | .lit (.string bytes) => bytes.length + 1
  | .lit _ => 1
  | .nil => 1
  | .ptr d => uptoBulk d + 1
  | .slice elems spare => uptoBulkAll elems + uptoBulkAll spare + 1
  | .agg parts => uptoBulkAll parts + 1
  | .iface _ d => uptoBulk d + 1
  | .map entries => uptoBulkEntries entries + 1
  | .held _ => 1
def uptoBulkAll {H : Type} : List (DataW H) → Nat
  | [] => 0
  | d :: r => uptoBulk d + uptoBulkAll r
def uptoBulkEntries {H : Type} : List (Lit × DataW H) → Nat
  | [] => 0
  | x :: r => uptoBulkEntry x + uptoBulkEntries r
def uptoBulkEntry {H : Type} : Lit × DataW H → Nat
  | (.string bytes, d) => bytes.length + uptoBulk d + 1
  | (_, d) => uptoBulk d + 1
 end
def uptoSmall : (H : Type) → List (DataW H) → Bool := fun _ ds => decide (uptoBulkAll ds ≤ 1048576)
def OpenSpec.upto (s : _root_.Go.ChangeSpec) : _root_.Go.OpenSpec := { _root_.Go.OpenSpec.ofChange s with cond := some uptoSmall }

/-- 'quiltworklaw13.WatchAll', WHERE WHAT IT READS IS OF BULK AT MOST 1048576: true; the input reads as it did. -/
def watchAllUptoRow : OpenClaim := { program := "ytnamhhmfnokfiaa", sum := "e8713bb600988f900cc64e438712f2917e0a0699d8ac1c8da9b1cee7da484c67", func := "quiltwork/quiltworklaw13.WatchAll", spec := "watchAll", unfollowed := true, recurses := true, apart := false, narrowed := true }
def WatchAllUptoSaid : Prop := watchAllUptoRow.holds Try.pinned (OpenSpec.upto watchAllSpec)

/-- 'quiltworklaw13.WatchGaps', WHERE WHAT IT READS IS OF BULK AT MOST 1048576: true; the input reads as it did. -/
def watchGapsUptoRow : OpenClaim := { program := "ytnamhhmfnokfiaa", sum := "e8713bb600988f900cc64e438712f2917e0a0699d8ac1c8da9b1cee7da484c67", func := "quiltwork/quiltworklaw13.WatchGaps", spec := "watchGaps", unfollowed := true, recurses := true, apart := false, narrowed := true }
def WatchGapsUptoSaid : Prop := watchGapsUptoRow.holds Try.pinned (OpenSpec.upto watchGapsSpec)

/-- 'quiltworklaw13.WatchNone', WHERE WHAT IT READS IS OF BULK AT MOST 1048576: true; the input reads as it did. -/
def watchNoneUptoRow : OpenClaim := { program := "ytnamhhmfnokfiaa", sum := "e8713bb600988f900cc64e438712f2917e0a0699d8ac1c8da9b1cee7da484c67", func := "quiltwork/quiltworklaw13.WatchNone", spec := "watchNone", unfollowed := true, recurses := true, apart := false, narrowed := true }
def WatchNoneUptoSaid : Prop := watchNoneUptoRow.holds Try.pinned (OpenSpec.upto watchNoneSpec)

/-- 'quiltworklaw13.WatchOwn', WHERE WHAT IT READS IS OF BULK AT MOST 1048576: true; the input reads as it did. -/
def watchOwnUptoRow : OpenClaim := { program := "ytnamhhmfnokfiaa", sum := "e8713bb600988f900cc64e438712f2917e0a0699d8ac1c8da9b1cee7da484c67", func := "quiltwork/quiltworklaw13.WatchOwn", spec := "watchOwn", unfollowed := true, recurses := true, apart := false, narrowed := true }
def WatchOwnUptoSaid : Prop := watchOwnUptoRow.holds Try.pinned (OpenSpec.upto watchOwnSpec)

/-- 'quiltworklaw13.WatchParts', WHERE WHAT IT READS IS OF BULK AT MOST 1048576: true; the input reads as it did. -/
def watchPartsUptoRow : OpenClaim := { program := "ytnamhhmfnokfiaa", sum := "e8713bb600988f900cc64e438712f2917e0a0699d8ac1c8da9b1cee7da484c67", func := "quiltwork/quiltworklaw13.WatchParts", spec := "watchParts", unfollowed := true, recurses := true, apart := false, narrowed := true }
def WatchPartsUptoSaid : Prop := watchPartsUptoRow.holds Try.pinned (OpenSpec.upto watchPartsSpec)

/-- 'quiltworklaw12.LockModes', WHERE WHAT IT READS IS OF BULK AT MOST 1048576: true; the input reads as it did. -/
def lockModesUptoRow : OpenClaim := { program := "ytnamhhmfnokfiaa", sum := "e8713bb600988f900cc64e438712f2917e0a0699d8ac1c8da9b1cee7da484c67", func := "quiltwork/quiltworklaw12.LockModes", spec := "lockModes", inPlace := ["slices.overlaps[quiltwork/lock.want]", "maps.clone"], unfollowed := true, recurses := true, apart := false, narrowed := true }
def LockModesUptoSaid : Prop := lockModesUptoRow.holds Try.pinned (OpenSpec.upto lockModesSpec)

/-- 'quiltworklaw12.LockAll', WHERE WHAT IT READS IS OF BULK AT MOST 1048576: true; the input reads as it did. -/
def lockAllUptoRow : OpenClaim := { program := "ytnamhhmfnokfiaa", sum := "e8713bb600988f900cc64e438712f2917e0a0699d8ac1c8da9b1cee7da484c67", func := "quiltwork/quiltworklaw12.LockAll", spec := "lockAll", inPlace := ["slices.overlaps[quiltwork/lock.want]", "maps.clone"], unfollowed := true, recurses := true, apart := false, narrowed := true }
def LockAllUptoSaid : Prop := lockAllUptoRow.holds Try.pinned (OpenSpec.upto lockAllSpec)

/-- 'quiltworklaw12.LockFits', WHERE WHAT IT READS IS OF BULK AT MOST 1048576: true; the input reads as it did. -/
def lockFitsUptoRow : OpenClaim := { program := "ytnamhhmfnokfiaa", sum := "e8713bb600988f900cc64e438712f2917e0a0699d8ac1c8da9b1cee7da484c67", func := "quiltwork/quiltworklaw12.LockFits", spec := "lockFits", inPlace := ["slices.overlaps[quiltwork/lock.want]", "maps.clone"], unfollowed := true, recurses := true, apart := false, narrowed := true }
def LockFitsUptoSaid : Prop := lockFitsUptoRow.holds Try.pinned (OpenSpec.upto lockFitsSpec)

/-- 'quiltworklaw12.LockStuck', WHERE WHAT IT READS IS OF BULK AT MOST 1048576: true; the input reads as it did. -/
def lockStuckUptoRow : OpenClaim := { program := "ytnamhhmfnokfiaa", sum := "e8713bb600988f900cc64e438712f2917e0a0699d8ac1c8da9b1cee7da484c67", func := "quiltwork/quiltworklaw12.LockStuck", spec := "lockStuck", inPlace := ["slices.overlaps[quiltwork/lock.want]", "maps.clone"], unfollowed := true, recurses := true, apart := false, narrowed := true }
def LockStuckUptoSaid : Prop := lockStuckUptoRow.holds Try.pinned (OpenSpec.upto lockStuckSpec)

/-- 'quiltworklaw12.LockRises', WHERE WHAT IT READS IS OF BULK AT MOST 1048576: true; the input reads as it did. -/
def lockRisesUptoRow : OpenClaim := { program := "ytnamhhmfnokfiaa", sum := "e8713bb600988f900cc64e438712f2917e0a0699d8ac1c8da9b1cee7da484c67", func := "quiltwork/quiltworklaw12.LockRises", spec := "lockRises", inPlace := ["slices.overlaps[quiltwork/lock.want]", "maps.clone"], unfollowed := true, recurses := true, apart := false, narrowed := true }
def LockRisesUptoSaid : Prop := lockRisesUptoRow.holds Try.pinned (OpenSpec.upto lockRisesSpec)

/-- 'quiltworklaw12.LockServes', WHERE WHAT IT READS IS OF BULK AT MOST 1048576: true; the input reads as it did. -/
def lockServesUptoRow : OpenClaim := { program := "ytnamhhmfnokfiaa", sum := "e8713bb600988f900cc64e438712f2917e0a0699d8ac1c8da9b1cee7da484c67", func := "quiltwork/quiltworklaw12.LockServes", spec := "lockServes", inPlace := ["slices.overlaps[quiltwork/lock.want]", "maps.clone"], unfollowed := true, recurses := true, apart := false, narrowed := true }
def LockServesUptoSaid : Prop := lockServesUptoRow.holds Try.pinned (OpenSpec.upto lockServesSpec)

/-- 'quiltworklaw12.LockAlone', WHERE WHAT IT READS IS OF BULK AT MOST 1048576: true; the input reads as it did. -/
def lockAloneUptoRow : OpenClaim := { program := "ytnamhhmfnokfiaa", sum := "e8713bb600988f900cc64e438712f2917e0a0699d8ac1c8da9b1cee7da484c67", func := "quiltwork/quiltworklaw12.LockAlone", spec := "lockAlone", inPlace := ["slices.overlaps[quiltwork/lock.want]", "maps.clone"], unfollowed := true, recurses := true, apart := false, narrowed := true }
def LockAloneUptoSaid : Prop := lockAloneUptoRow.holds Try.pinned (OpenSpec.upto lockAloneSpec)

end Rows
end Go.Proofs.Ytnamhhmfnokfiaa
