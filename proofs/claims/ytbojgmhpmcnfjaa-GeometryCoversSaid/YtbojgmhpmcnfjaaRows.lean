/-
  No cell of these rows narrows 'for every input' (looked for: loops, veiled, ifaces, maps, wideKeys, modest, calm, conditions, laid).
  DERIVED. THE GIVEN ROWS OF THIS SEAT. 16 by the template 'for every input the law returns true; each argument reads behind the call as it read before'; 0 by the template 'total and deterministic' (their statements: YtbojgmhpmcnfjaaTotals.lean).
  GIVEN WITH THE SEED: the statements are not yours to turn. If you find one false, say at which input.
  Laid BY PROGRAM, IN A SANDBOX (cutbox-rows.mjs): the forced cells as the released guide's own fill.sh prints them over the translation f431ca7d3ec61334… (all of the seat's roots in one cut). By AI agents, Wed Nov 11 2026. No macro, syntax, notation, axiom, sorry.
-/
import Derived.Test.YtbojgmhpmcnfjaaChecked
import GoSem.Claim
import GoSem.ClaimJoined
import GoSem.ClaimMapViews
import Derived.JoinedTies
import Derived.KernelRfl
namespace Go.Proofs.Ytbojgmhpmcnfjaa
/- THE CELL 'sum', in the pinned program and in every row, IS THE sha256 OF THE DUMP (.gsa) THAT YtbojgmhpmcnfjaaProg.lean LOADS. Nothing in Lean hashes anything: it is a label: what it is worth is what the hold of that sum in a sandbox is worth. -/
noncomputable def Try.pinned : Pinned := { name := "ytbojgmhpmcnfjaa", sum := "f431ca7d3ec61334d46ec688f4e25f4acd873fdab98ccc7b141adcaa7fbb2bb2", checked := Try.checked }
namespace Rows
def none {H : Type} : Left H := { results := [], args := [] }

/-- 'dragheadlaw01.GeometryCircles': WHATEVER THE INPUT: true; the input reads as it did. -/
def geometryCirclesSpec : ChangeSpec := { name := "geometryCircles", fn := fun _ => fun
  | [d] => { results := [.lit (.bool true)], args := [d] }
  | _ => none }
def geometryCirclesRow : OpenClaim := { program := "ytbojgmhpmcnfjaa", sum := "f431ca7d3ec61334d46ec688f4e25f4acd873fdab98ccc7b141adcaa7fbb2bb2", func := "draghead/dragheadlaw01.GeometryCircles", spec := "geometryCircles", unfollowed := true, recurses := true, apart := false }
def GeometryCirclesSaid : Prop := geometryCirclesRow.holds Try.pinned (OpenSpec.ofChange geometryCirclesSpec)

/-- ITS FALSE NEIGHBOUR: 'it returns false'. Refute it at one input. -/
def geometryCirclesWrong : ChangeSpec := { name := "geometryCircles", fn := fun _ => fun
  | [d] => { results := [.lit (.bool false)], args := [d] }
  | _ => none }
def GeometryCirclesWrongFalsely : Prop := geometryCirclesRow.holds Try.pinned (OpenSpec.ofChange geometryCirclesWrong)

/-- 'dragheadlaw01.GeometryHulls': WHATEVER THE INPUT: true; the input reads as it did. -/
def geometryHullsSpec : ChangeSpec := { name := "geometryHulls", fn := fun _ => fun
  | [d] => { results := [.lit (.bool true)], args := [d] }
  | _ => none }
def geometryHullsRow : OpenClaim := { program := "ytbojgmhpmcnfjaa", sum := "f431ca7d3ec61334d46ec688f4e25f4acd873fdab98ccc7b141adcaa7fbb2bb2", func := "draghead/dragheadlaw01.GeometryHulls", spec := "geometryHulls", unfollowed := true, recurses := true, apart := false }
def GeometryHullsSaid : Prop := geometryHullsRow.holds Try.pinned (OpenSpec.ofChange geometryHullsSpec)

/-- ITS FALSE NEIGHBOUR: 'it returns false'. Refute it at one input. -/
def geometryHullsWrong : ChangeSpec := { name := "geometryHulls", fn := fun _ => fun
  | [d] => { results := [.lit (.bool false)], args := [d] }
  | _ => none }
def GeometryHullsWrongFalsely : Prop := geometryHullsRow.holds Try.pinned (OpenSpec.ofChange geometryHullsWrong)

/-- 'dragheadlaw01.GeometryCovers': WHATEVER THE INPUT: true; the input reads as it did. -/
def geometryCoversSpec : ChangeSpec := { name := "geometryCovers", fn := fun _ => fun
  | [d] => { results := [.lit (.bool true)], args := [d] }
  | _ => none }
def geometryCoversRow : OpenClaim := { program := "ytbojgmhpmcnfjaa", sum := "f431ca7d3ec61334d46ec688f4e25f4acd873fdab98ccc7b141adcaa7fbb2bb2", func := "draghead/dragheadlaw01.GeometryCovers", spec := "geometryCovers", unfollowed := true, recurses := true, apart := false }
def GeometryCoversSaid : Prop := geometryCoversRow.holds Try.pinned (OpenSpec.ofChange geometryCoversSpec)

/-- ITS FALSE NEIGHBOUR: 'it returns false'. Refute it at one input. -/
def geometryCoversWrong : ChangeSpec := { name := "geometryCovers", fn := fun _ => fun
  | [d] => { results := [.lit (.bool false)], args := [d] }
  | _ => none }
def GeometryCoversWrongFalsely : Prop := geometryCoversRow.holds Try.pinned (OpenSpec.ofChange geometryCoversWrong)

/-- 'dragheadlaw01.GeometrySegments': WHATEVER THE INPUT: true; the input reads as it did. -/
def geometrySegmentsSpec : ChangeSpec := { name := "geometrySegments", fn := fun _ => fun
  | [d] => { results := [.lit (.bool true)], args := [d] }
  | _ => none }
def geometrySegmentsRow : OpenClaim := { program := "ytbojgmhpmcnfjaa", sum := "f431ca7d3ec61334d46ec688f4e25f4acd873fdab98ccc7b141adcaa7fbb2bb2", func := "draghead/dragheadlaw01.GeometrySegments", spec := "geometrySegments", unfollowed := true, recurses := true, apart := false }
def GeometrySegmentsSaid : Prop := geometrySegmentsRow.holds Try.pinned (OpenSpec.ofChange geometrySegmentsSpec)

/-- ITS FALSE NEIGHBOUR: 'it returns false'. Refute it at one input. -/
def geometrySegmentsWrong : ChangeSpec := { name := "geometrySegments", fn := fun _ => fun
  | [d] => { results := [.lit (.bool false)], args := [d] }
  | _ => none }
def GeometrySegmentsWrongFalsely : Prop := geometrySegmentsRow.holds Try.pinned (OpenSpec.ofChange geometrySegmentsWrong)

/-- 'dragheadlaw01.GeometryTriangulates': WHATEVER THE INPUT: true; the input reads as it did. -/
def geometryTriangulatesSpec : ChangeSpec := { name := "geometryTriangulates", fn := fun _ => fun
  | [d] => { results := [.lit (.bool true)], args := [d] }
  | _ => none }
def geometryTriangulatesRow : OpenClaim := { program := "ytbojgmhpmcnfjaa", sum := "f431ca7d3ec61334d46ec688f4e25f4acd873fdab98ccc7b141adcaa7fbb2bb2", func := "draghead/dragheadlaw01.GeometryTriangulates", spec := "geometryTriangulates", unfollowed := true, recurses := true, apart := false }
def GeometryTriangulatesSaid : Prop := geometryTriangulatesRow.holds Try.pinned (OpenSpec.ofChange geometryTriangulatesSpec)

/-- ITS FALSE NEIGHBOUR: 'it returns false'. Refute it at one input. -/
def geometryTriangulatesWrong : ChangeSpec := { name := "geometryTriangulates", fn := fun _ => fun
  | [d] => { results := [.lit (.bool false)], args := [d] }
  | _ => none }
def GeometryTriangulatesWrongFalsely : Prop := geometryTriangulatesRow.holds Try.pinned (OpenSpec.ofChange geometryTriangulatesWrong)

/-- 'dragheadlaw01.GeometryChecks': WHATEVER THE INPUT: true; the input reads as it did. -/
def geometryChecksSpec : ChangeSpec := { name := "geometryChecks", fn := fun _ => fun
  | [d1, d2] => { results := [.lit (.bool true)], args := [d1, d2] }
  | _ => none }
def geometryChecksRow : OpenClaim := { program := "ytbojgmhpmcnfjaa", sum := "f431ca7d3ec61334d46ec688f4e25f4acd873fdab98ccc7b141adcaa7fbb2bb2", func := "draghead/dragheadlaw01.GeometryChecks", spec := "geometryChecks", unfollowed := true, recurses := true, apart := false }
def GeometryChecksSaid : Prop := geometryChecksRow.holds Try.pinned (OpenSpec.ofChange geometryChecksSpec)

/-- ITS FALSE NEIGHBOUR: 'it returns false'. Refute it at one input. -/
def geometryChecksWrong : ChangeSpec := { name := "geometryChecks", fn := fun _ => fun
  | [d1, d2] => { results := [.lit (.bool false)], args := [d1, d2] }
  | _ => none }
def GeometryChecksWrongFalsely : Prop := geometryChecksRow.holds Try.pinned (OpenSpec.ofChange geometryChecksWrong)

/-- 'dragheadlaw01.GeometryLocates': WHATEVER THE INPUT: true; the input reads as it did. -/
def geometryLocatesSpec : ChangeSpec := { name := "geometryLocates", fn := fun _ => fun
  | [d1, d2, d3] => { results := [.lit (.bool true)], args := [d1, d2, d3] }
  | _ => none }
def geometryLocatesRow : OpenClaim := { program := "ytbojgmhpmcnfjaa", sum := "f431ca7d3ec61334d46ec688f4e25f4acd873fdab98ccc7b141adcaa7fbb2bb2", func := "draghead/dragheadlaw01.GeometryLocates", spec := "geometryLocates", unfollowed := true, recurses := true, apart := false }
def GeometryLocatesSaid : Prop := geometryLocatesRow.holds Try.pinned (OpenSpec.ofChange geometryLocatesSpec)

/-- ITS FALSE NEIGHBOUR: 'it returns false'. Refute it at one input. -/
def geometryLocatesWrong : ChangeSpec := { name := "geometryLocates", fn := fun _ => fun
  | [d1, d2, d3] => { results := [.lit (.bool false)], args := [d1, d2, d3] }
  | _ => none }
def GeometryLocatesWrongFalsely : Prop := geometryLocatesRow.holds Try.pinned (OpenSpec.ofChange geometryLocatesWrong)

/-- 'dragheadlaw01.GeometryPolygons': WHATEVER THE INPUT: true; the input reads as it did. -/
def geometryPolygonsSpec : ChangeSpec := { name := "geometryPolygons", fn := fun _ => fun
  | [d1, d2] => { results := [.lit (.bool true)], args := [d1, d2] }
  | _ => none }
def geometryPolygonsRow : OpenClaim := { program := "ytbojgmhpmcnfjaa", sum := "f431ca7d3ec61334d46ec688f4e25f4acd873fdab98ccc7b141adcaa7fbb2bb2", func := "draghead/dragheadlaw01.GeometryPolygons", spec := "geometryPolygons", unfollowed := true, recurses := true, apart := false }
def GeometryPolygonsSaid : Prop := geometryPolygonsRow.holds Try.pinned (OpenSpec.ofChange geometryPolygonsSpec)

/-- ITS FALSE NEIGHBOUR: 'it returns false'. Refute it at one input. -/
def geometryPolygonsWrong : ChangeSpec := { name := "geometryPolygons", fn := fun _ => fun
  | [d1, d2] => { results := [.lit (.bool false)], args := [d1, d2] }
  | _ => none }
def GeometryPolygonsWrongFalsely : Prop := geometryPolygonsRow.holds Try.pinned (OpenSpec.ofChange geometryPolygonsWrong)

/-- 'dragheadlaw01.GeometryLevels': WHATEVER THE INPUT: true; the input reads as it did. -/
def geometryLevelsSpec : ChangeSpec := { name := "geometryLevels", fn := fun _ => fun
  | [d] => { results := [.lit (.bool true)], args := [d] }
  | _ => none }
def geometryLevelsRow : OpenClaim := { program := "ytbojgmhpmcnfjaa", sum := "f431ca7d3ec61334d46ec688f4e25f4acd873fdab98ccc7b141adcaa7fbb2bb2", func := "draghead/dragheadlaw01.GeometryLevels", spec := "geometryLevels", unfollowed := true, recurses := true, apart := false }
def GeometryLevelsSaid : Prop := geometryLevelsRow.holds Try.pinned (OpenSpec.ofChange geometryLevelsSpec)

/-- ITS FALSE NEIGHBOUR: 'it returns false'. Refute it at one input. -/
def geometryLevelsWrong : ChangeSpec := { name := "geometryLevels", fn := fun _ => fun
  | [d] => { results := [.lit (.bool false)], args := [d] }
  | _ => none }
def GeometryLevelsWrongFalsely : Prop := geometryLevelsRow.holds Try.pinned (OpenSpec.ofChange geometryLevelsWrong)

/-- 'dragheadlaw01.GeometryPlanes': WHATEVER THE INPUT: true; the input reads as it did. -/
def geometryPlanesSpec : ChangeSpec := { name := "geometryPlanes", fn := fun _ => fun
  | [d1, d2] => { results := [.lit (.bool true)], args := [d1, d2] }
  | _ => none }
def geometryPlanesRow : OpenClaim := { program := "ytbojgmhpmcnfjaa", sum := "f431ca7d3ec61334d46ec688f4e25f4acd873fdab98ccc7b141adcaa7fbb2bb2", func := "draghead/dragheadlaw01.GeometryPlanes", spec := "geometryPlanes", unfollowed := true, recurses := true, apart := false }
def GeometryPlanesSaid : Prop := geometryPlanesRow.holds Try.pinned (OpenSpec.ofChange geometryPlanesSpec)

/-- ITS FALSE NEIGHBOUR: 'it returns false'. Refute it at one input. -/
def geometryPlanesWrong : ChangeSpec := { name := "geometryPlanes", fn := fun _ => fun
  | [d1, d2] => { results := [.lit (.bool false)], args := [d1, d2] }
  | _ => none }
def GeometryPlanesWrongFalsely : Prop := geometryPlanesRow.holds Try.pinned (OpenSpec.ofChange geometryPlanesWrong)

/-- 'dragheadlaw01.GeometryHolds': WHATEVER THE INPUT: true; the input reads as it did. -/
def geometryHoldsSpec : ChangeSpec := { name := "geometryHolds", fn := fun _ => fun
  | [d] => { results := [.lit (.bool true)], args := [d] }
  | _ => none }
def geometryHoldsRow : OpenClaim := { program := "ytbojgmhpmcnfjaa", sum := "f431ca7d3ec61334d46ec688f4e25f4acd873fdab98ccc7b141adcaa7fbb2bb2", func := "draghead/dragheadlaw01.GeometryHolds", spec := "geometryHolds", unfollowed := true, recurses := true, apart := false }
def GeometryHoldsSaid : Prop := geometryHoldsRow.holds Try.pinned (OpenSpec.ofChange geometryHoldsSpec)

/-- ITS FALSE NEIGHBOUR: 'it returns false'. Refute it at one input. -/
def geometryHoldsWrong : ChangeSpec := { name := "geometryHolds", fn := fun _ => fun
  | [d] => { results := [.lit (.bool false)], args := [d] }
  | _ => none }
def GeometryHoldsWrongFalsely : Prop := geometryHoldsRow.holds Try.pinned (OpenSpec.ofChange geometryHoldsWrong)

/-- 'dragheadlaw01.GeometryTouches': WHATEVER THE INPUT: true; the input reads as it did. -/
def geometryTouchesSpec : ChangeSpec := { name := "geometryTouches", fn := fun _ => fun
  | [d1, d2, d3] => { results := [.lit (.bool true)], args := [d1, d2, d3] }
  | _ => none }
def geometryTouchesRow : OpenClaim := { program := "ytbojgmhpmcnfjaa", sum := "f431ca7d3ec61334d46ec688f4e25f4acd873fdab98ccc7b141adcaa7fbb2bb2", func := "draghead/dragheadlaw01.GeometryTouches", spec := "geometryTouches", unfollowed := true, recurses := true, apart := false }
def GeometryTouchesSaid : Prop := geometryTouchesRow.holds Try.pinned (OpenSpec.ofChange geometryTouchesSpec)

/-- ITS FALSE NEIGHBOUR: 'it returns false'. Refute it at one input. -/
def geometryTouchesWrong : ChangeSpec := { name := "geometryTouches", fn := fun _ => fun
  | [d1, d2, d3] => { results := [.lit (.bool false)], args := [d1, d2, d3] }
  | _ => none }
def GeometryTouchesWrongFalsely : Prop := geometryTouchesRow.holds Try.pinned (OpenSpec.ofChange geometryTouchesWrong)

/-- 'dragheadlaw01.GeometryAdds': WHATEVER THE INPUT: true; the input reads as it did. -/
def geometryAddsSpec : ChangeSpec := { name := "geometryAdds", fn := fun _ => fun
  | [d] => { results := [.lit (.bool true)], args := [d] }
  | _ => none }
def geometryAddsRow : OpenClaim := { program := "ytbojgmhpmcnfjaa", sum := "f431ca7d3ec61334d46ec688f4e25f4acd873fdab98ccc7b141adcaa7fbb2bb2", func := "draghead/dragheadlaw01.GeometryAdds", spec := "geometryAdds", inPlace := ["math.sqrt"], unfollowed := true, recurses := true, apart := false }
def GeometryAddsSaid : Prop := geometryAddsRow.holds Try.pinned (OpenSpec.ofChange geometryAddsSpec)

/-- ITS FALSE NEIGHBOUR: 'it returns false'. Refute it at one input. -/
def geometryAddsWrong : ChangeSpec := { name := "geometryAdds", fn := fun _ => fun
  | [d] => { results := [.lit (.bool false)], args := [d] }
  | _ => none }
def GeometryAddsWrongFalsely : Prop := geometryAddsRow.holds Try.pinned (OpenSpec.ofChange geometryAddsWrong)

/-- 'dragheadlaw01.GeometryPoints': WHATEVER THE INPUT: true; the input reads as it did. -/
def geometryPointsSpec : ChangeSpec := { name := "geometryPoints", fn := fun _ => fun
  | [d1, d2, d3] => { results := [.lit (.bool true)], args := [d1, d2, d3] }
  | _ => none }
def geometryPointsRow : OpenClaim := { program := "ytbojgmhpmcnfjaa", sum := "f431ca7d3ec61334d46ec688f4e25f4acd873fdab98ccc7b141adcaa7fbb2bb2", func := "draghead/dragheadlaw01.GeometryPoints", spec := "geometryPoints", inPlace := ["math.sqrt"], unfollowed := true, recurses := true, apart := false }
def GeometryPointsSaid : Prop := geometryPointsRow.holds Try.pinned (OpenSpec.ofChange geometryPointsSpec)

/-- ITS FALSE NEIGHBOUR: 'it returns false'. Refute it at one input. -/
def geometryPointsWrong : ChangeSpec := { name := "geometryPoints", fn := fun _ => fun
  | [d1, d2, d3] => { results := [.lit (.bool false)], args := [d1, d2, d3] }
  | _ => none }
def GeometryPointsWrongFalsely : Prop := geometryPointsRow.holds Try.pinned (OpenSpec.ofChange geometryPointsWrong)

/-- 'dragheadlaw01.GeometryOffsets': WHATEVER THE INPUT: true; the input reads as it did. -/
def geometryOffsetsSpec : ChangeSpec := { name := "geometryOffsets", fn := fun _ => fun
  | [d1, d2, d3] => { results := [.lit (.bool true)], args := [d1, d2, d3] }
  | _ => none }
def geometryOffsetsRow : OpenClaim := { program := "ytbojgmhpmcnfjaa", sum := "f431ca7d3ec61334d46ec688f4e25f4acd873fdab98ccc7b141adcaa7fbb2bb2", func := "draghead/dragheadlaw01.GeometryOffsets", spec := "geometryOffsets", inPlace := ["math.sqrt"], unfollowed := true, recurses := true, apart := false }
def GeometryOffsetsSaid : Prop := geometryOffsetsRow.holds Try.pinned (OpenSpec.ofChange geometryOffsetsSpec)

/-- ITS FALSE NEIGHBOUR: 'it returns false'. Refute it at one input. -/
def geometryOffsetsWrong : ChangeSpec := { name := "geometryOffsets", fn := fun _ => fun
  | [d1, d2, d3] => { results := [.lit (.bool false)], args := [d1, d2, d3] }
  | _ => none }
def GeometryOffsetsWrongFalsely : Prop := geometryOffsetsRow.holds Try.pinned (OpenSpec.ofChange geometryOffsetsWrong)

/-- 'dragheadlaw01.GeometryInside': WHATEVER THE INPUT: true; the input reads as it did. -/
def geometryInsideSpec : ChangeSpec := { name := "geometryInside", fn := fun _ => fun
  | [d1, d2, d3] => { results := [.lit (.bool true)], args := [d1, d2, d3] }
  | _ => none }
def geometryInsideRow : OpenClaim := { program := "ytbojgmhpmcnfjaa", sum := "f431ca7d3ec61334d46ec688f4e25f4acd873fdab98ccc7b141adcaa7fbb2bb2", func := "draghead/dragheadlaw01.GeometryInside", spec := "geometryInside", inPlace := ["math.sqrt"], unfollowed := true, recurses := true, apart := false }
def GeometryInsideSaid : Prop := geometryInsideRow.holds Try.pinned (OpenSpec.ofChange geometryInsideSpec)

/-- ITS FALSE NEIGHBOUR: 'it returns false'. Refute it at one input. -/
def geometryInsideWrong : ChangeSpec := { name := "geometryInside", fn := fun _ => fun
  | [d1, d2, d3] => { results := [.lit (.bool false)], args := [d1, d2, d3] }
  | _ => none }
def GeometryInsideWrongFalsely : Prop := geometryInsideRow.holds Try.pinned (OpenSpec.ofChange geometryInsideWrong)

/- THE SECOND FORM. 'bulk': how many values and letters a reading holds, each counted each time it is reached (what is shared counts as often as it is met; a slice's spare places count too). A statement '..UptoSaid' is the law's where the arguments, and the package variables that the reading takes, are together of bulk at most 1048576: NARROWER than '..Said'. Prove '..Said' where nothing that the law and all that it calls make is longer than what came in: it says more and counts as full. Else prove '..UptoSaid'. A law counts once. -/
mutual
def uptoBulk {H : Type} : DataW H → Nat
  | .lit (.string bytes) => bytes.length + 1
  | .lit _ => 1
  | .nil => 1
  | .ptr d => uptoBulk d + 1
  | .slice elems spare => uptoBulkAll elems + uptoBulkAll spare + 1
  | .agg parts => uptoBulkAll parts + 1
  | .iface _ d => uptoBulk d + 1
  | .map entries => uptoBulkEntries entries + 1
  | .held _ => 1
def uptoBulkAll {H : Type} : List (DataW H) → Nat
  | [] => 0
  | d :: r => uptoBulk d + uptoBulkAll r
def uptoBulkEntries {H : Type} : List (Lit × DataW H) → Nat
  | [] => 0
  | x :: r => uptoBulkEntry x + uptoBulkEntries r
def uptoBulkEntry {H : Type} : Lit × DataW H → Nat
  | (.string bytes, d) => bytes.length + uptoBulk d + 1
  | (_, d) => uptoBulk d + 1
 end
def uptoSmall : (H : Type) → List (DataW H) → Bool := fun _ ds => decide (uptoBulkAll ds ≤ 1048576)
def OpenSpec.upto (s : _root_.Go.ChangeSpec) : _root_.Go.OpenSpec := { _root_.Go.OpenSpec.ofChange s with cond := some uptoSmall }

/-- 'dragheadlaw01.GeometryCircles', WHERE WHAT IT READS IS OF BULK AT MOST 1048576: true; the input reads as it did. -/
def geometryCirclesUptoRow : OpenClaim := { program := "ytbojgmhpmcnfjaa", sum := "f431ca7d3ec61334d46ec688f4e25f4acd873fdab98ccc7b141adcaa7fbb2bb2", func := "draghead/dragheadlaw01.GeometryCircles", spec := "geometryCircles", unfollowed := true, recurses := true, apart := false, narrowed := true }
def GeometryCirclesUptoSaid : Prop := geometryCirclesUptoRow.holds Try.pinned (OpenSpec.upto geometryCirclesSpec)

/-- 'dragheadlaw01.GeometryHulls', WHERE WHAT IT READS IS OF BULK AT MOST 1048576: true; the input reads as it did. -/
def geometryHullsUptoRow : OpenClaim := { program := "ytbojgmhpmcnfjaa", sum := "f431ca7d3ec61334d46ec688f4e25f4acd873fdab98ccc7b141adcaa7fbb2bb2", func := "draghead/dragheadlaw01.GeometryHulls", spec := "geometryHulls", unfollowed := true, recurses := true, apart := false, narrowed := true }
def GeometryHullsUptoSaid : Prop := geometryHullsUptoRow.holds Try.pinned (OpenSpec.upto geometryHullsSpec)

/-- 'dragheadlaw01.GeometryCovers', WHERE WHAT IT READS IS OF BULK AT MOST 1048576: true; the input reads as it did. -/
def geometryCoversUptoRow : OpenClaim := { program := "ytbojgmhpmcnfjaa", sum := "f431ca7d3ec61334d46ec688f4e25f4acd873fdab98ccc7b141adcaa7fbb2bb2", func := "draghead/dragheadlaw01.GeometryCovers", spec := "geometryCovers", unfollowed := true, recurses := true, apart := false, narrowed := true }
def GeometryCoversUptoSaid : Prop := geometryCoversUptoRow.holds Try.pinned (OpenSpec.upto geometryCoversSpec)

/-- 'dragheadlaw01.GeometrySegments', WHERE WHAT IT READS IS OF BULK AT MOST 1048576: true; the input reads as it did. -/
def geometrySegmentsUptoRow : OpenClaim := { program := "ytbojgmhpmcnfjaa", sum := "f431ca7d3ec61334d46ec688f4e25f4acd873fdab98ccc7b141adcaa7fbb2bb2", func := "draghead/dragheadlaw01.GeometrySegments", spec := "geometrySegments", unfollowed := true, recurses := true, apart := false, narrowed := true }
def GeometrySegmentsUptoSaid : Prop := geometrySegmentsUptoRow.holds Try.pinned (OpenSpec.upto geometrySegmentsSpec)

/-- 'dragheadlaw01.GeometryTriangulates', WHERE WHAT IT READS IS OF BULK AT MOST 1048576: true; the input reads as it did. -/
def geometryTriangulatesUptoRow : OpenClaim := { program := "ytbojgmhpmcnfjaa", sum := "f431ca7d3ec61334d46ec688f4e25f4acd873fdab98ccc7b141adcaa7fbb2bb2", func := "draghead/dragheadlaw01.GeometryTriangulates", spec := "geometryTriangulates", unfollowed := true, recurses := true, apart := false, narrowed := true }
def GeometryTriangulatesUptoSaid : Prop := geometryTriangulatesUptoRow.holds Try.pinned (OpenSpec.upto geometryTriangulatesSpec)

/-- 'dragheadlaw01.GeometryChecks', WHERE WHAT IT READS IS OF BULK AT MOST 1048576: true; the input reads as it did. -/
def geometryChecksUptoRow : OpenClaim := { program := "ytbojgmhpmcnfjaa", sum := "f431ca7d3ec61334d46ec688f4e25f4acd873fdab98ccc7b141adcaa7fbb2bb2", func := "draghead/dragheadlaw01.GeometryChecks", spec := "geometryChecks", unfollowed := true, recurses := true, apart := false, narrowed := true }
def GeometryChecksUptoSaid : Prop := geometryChecksUptoRow.holds Try.pinned (OpenSpec.upto geometryChecksSpec)

/-- 'dragheadlaw01.GeometryLocates', WHERE WHAT IT READS IS OF BULK AT MOST 1048576: true; the input reads as it did. -/
def geometryLocatesUptoRow : OpenClaim := { program := "ytbojgmhpmcnfjaa", sum := "f431ca7d3ec61334d46ec688f4e25f4acd873fdab98ccc7b141adcaa7fbb2bb2", func := "draghead/dragheadlaw01.GeometryLocates", spec := "geometryLocates", unfollowed := true, recurses := true, apart := false, narrowed := true }
def GeometryLocatesUptoSaid : Prop := geometryLocatesUptoRow.holds Try.pinned (OpenSpec.upto geometryLocatesSpec)

/-- 'dragheadlaw01.GeometryPolygons', WHERE WHAT IT READS IS OF BULK AT MOST 1048576: true; the input reads as it did. -/
def geometryPolygonsUptoRow : OpenClaim := { program := "ytbojgmhpmcnfjaa", sum := "f431ca7d3ec61334d46ec688f4e25f4acd873fdab98ccc7b141adcaa7fbb2bb2", func := "draghead/dragheadlaw01.GeometryPolygons", spec := "geometryPolygons", unfollowed := true, recurses := true, apart := false, narrowed := true }
def GeometryPolygonsUptoSaid : Prop := geometryPolygonsUptoRow.holds Try.pinned (OpenSpec.upto geometryPolygonsSpec)

/-- 'dragheadlaw01.GeometryLevels', WHERE WHAT IT READS IS OF BULK AT MOST 1048576: true; the input reads as it did. -/
def geometryLevelsUptoRow : OpenClaim := { program := "ytbojgmhpmcnfjaa", sum := "f431ca7d3ec61334d46ec688f4e25f4acd873fdab98ccc7b141adcaa7fbb2bb2", func := "draghead/dragheadlaw01.GeometryLevels", spec := "geometryLevels", unfollowed := true, recurses := true, apart := false, narrowed := true }
def GeometryLevelsUptoSaid : Prop := geometryLevelsUptoRow.holds Try.pinned (OpenSpec.upto geometryLevelsSpec)

/-- 'dragheadlaw01.GeometryPlanes', WHERE WHAT IT READS IS OF BULK AT MOST 1048576: true; the input reads as it did. -/
def geometryPlanesUptoRow : OpenClaim := { program := "ytbojgmhpmcnfjaa", sum := "f431ca7d3ec61334d46ec688f4e25f4acd873fdab98ccc7b141adcaa7fbb2bb2", func := "draghead/dragheadlaw01.GeometryPlanes", spec := "geometryPlanes", unfollowed := true, recurses := true, apart := false, narrowed := true }
def GeometryPlanesUptoSaid : Prop := geometryPlanesUptoRow.holds Try.pinned (OpenSpec.upto geometryPlanesSpec)

/-- 'dragheadlaw01.GeometryHolds', WHERE WHAT IT READS IS OF BULK AT MOST 1048576: true; the input reads as it did. -/
def geometryHoldsUptoRow : OpenClaim := { program := "ytbojgmhpmcnfjaa", sum := "f431ca7d3ec61334d46ec688f4e25f4acd873fdab98ccc7b141adcaa7fbb2bb2", func := "draghead/dragheadlaw01.GeometryHolds", spec := "geometryHolds", unfollowed := true, recurses := true, apart := false, narrowed := true }
def GeometryHoldsUptoSaid : Prop := geometryHoldsUptoRow.holds Try.pinned (OpenSpec.upto geometryHoldsSpec)

/-- 'dragheadlaw01.GeometryTouches', WHERE WHAT IT READS IS OF BULK AT MOST 1048576: true; the input reads as it did. -/
def geometryTouchesUptoRow : OpenClaim := { program := "ytbojgmhpmcnfjaa", sum := "f431ca7d3ec61334d46ec688f4e25f4acd873fdab98ccc7b141adcaa7fbb2bb2", func := "draghead/dragheadlaw01.GeometryTouches", spec := "geometryTouches", unfollowed := true, recurses := true, apart := false, narrowed := true }
def GeometryTouchesUptoSaid : Prop := geometryTouchesUptoRow.holds Try.pinned (OpenSpec.upto geometryTouchesSpec)

/-- 'dragheadlaw01.GeometryAdds', WHERE WHAT IT READS IS OF BULK AT MOST 1048576: true; the input reads as it did. -/
def geometryAddsUptoRow : OpenClaim := { program := "ytbojgmhpmcnfjaa", sum := "f431ca7d3ec61334d46ec688f4e25f4acd873fdab98ccc7b141adcaa7fbb2bb2", func := "draghead/dragheadlaw01.GeometryAdds", spec := "geometryAdds", inPlace := ["math.sqrt"], unfollowed := true, recurses := true, apart := false, narrowed := true }
def GeometryAddsUptoSaid : Prop := geometryAddsUptoRow.holds Try.pinned (OpenSpec.upto geometryAddsSpec)

/-- 'dragheadlaw01.GeometryPoints', WHERE WHAT IT READS IS OF BULK AT MOST 1048576: true; the input reads as it did. -/
def geometryPointsUptoRow : OpenClaim := { program := "ytbojgmhpmcnfjaa", sum := "f431ca7d3ec61334d46ec688f4e25f4acd873fdab98ccc7b141adcaa7fbb2bb2", func := "draghead/dragheadlaw01.GeometryPoints", spec := "geometryPoints", inPlace := ["math.sqrt"], unfollowed := true, recurses := true, apart := false, narrowed := true }
def GeometryPointsUptoSaid : Prop := geometryPointsUptoRow.holds Try.pinned (OpenSpec.upto geometryPointsSpec)

/-- 'dragheadlaw01.GeometryOffsets', WHERE WHAT IT READS IS OF BULK AT MOST 1048576: true; the input reads as it did. -/
def geometryOffsetsUptoRow : OpenClaim := { program := "ytbojgmhpmcnfjaa", sum := "f431ca7d3ec61334d46ec688f4e25f4acd873fdab98ccc7b141adcaa7fbb2bb2", func := "draghead/dragheadlaw01.GeometryOffsets", spec := "geometryOffsets", inPlace := ["math.sqrt"], unfollowed := true, recurses := true, apart := false, narrowed := true }
def GeometryOffsetsUptoSaid : Prop := geometryOffsetsUptoRow.holds Try.pinned (OpenSpec.upto geometryOffsetsSpec)

/-- 'dragheadlaw01.GeometryInside', WHERE WHAT IT READS IS OF BULK AT MOST 1048576: true; the input reads as it did. -/
def geometryInsideUptoRow : OpenClaim := { program := "ytbojgmhpmcnfjaa", sum := "f431ca7d3ec61334d46ec688f4e25f4acd873fdab98ccc7b141adcaa7fbb2bb2", func := "draghead/dragheadlaw01.GeometryInside", spec := "geometryInside", inPlace := ["math.sqrt"], unfollowed := true, recurses := true, apart := false, narrowed := true }
def GeometryInsideUptoSaid : Prop := geometryInsideUptoRow.holds Try.pinned (OpenSpec.upto geometryInsideSpec)

end Rows
end Go.Proofs.Ytbojgmhpmcnfjaa
