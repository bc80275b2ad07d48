/-
  No cell of these rows narrows 'for every input' (looked for: loops, veiled, ifaces, maps, wideKeys, modest, calm, conditions, laid).
  DERIVED. THE GIVEN ROWS OF THIS SEAT. 15 by the template 'for every input the law returns true; each argument reads behind the call as it read before'; 0 by the template 'total and deterministic' (their statements: YtdedpndkohfgbaaTotals.lean).
  GIVEN WITH THE SEED: the statements are not yours to turn. If you find one false, say at which input.
  Laid BY PROGRAM, IN A SANDBOX (cutbox-rows.mjs): the forced cells as the released guide's own fill.sh prints them over the translation 35ad6af66201d7ff… (all of the seat's roots in one cut). By AI agents, Wed Nov 11 2026. No macro, syntax, notation, axiom, sorry.
-/
import Derived.Test.YtdedpndkohfgbaaChecked
import GoSem.Claim
import GoSem.ClaimJoined
import GoSem.ClaimMapViews
import Derived.JoinedTies
import Derived.KernelRfl
namespace Go.Proofs.Ytdedpndkohfgbaa
/- THE CELL 'sum', in the pinned program and in every row, IS THE sha256 OF THE DUMP (.gsa) THAT YtdedpndkohfgbaaProg.lean LOADS. Nothing in Lean hashes anything: it is a label: what it is worth is what the hold of that sum in a sandbox is worth. -/
noncomputable def Try.pinned : Pinned := { name := "ytdedpndkohfgbaa", sum := "35ad6af66201d7ffd5e7c884c0bd227739e4be3be1ac84c266cb25753fdfbbd7", checked := Try.checked }
namespace Rows
def none {H : Type} : Left H := { results := [], args := [] }

/-- 'dragheadlaw06.SoilGrounds': WHATEVER THE INPUT: true; the input reads as it did. -/
def soilGroundsSpec : ChangeSpec := { name := "soilGrounds", fn := fun _ => fun
  | [d] => { results := [.lit (.bool true)], args := [d] }
  | _ => none }
def soilGroundsRow : OpenClaim := { program := "ytdedpndkohfgbaa", sum := "35ad6af66201d7ffd5e7c884c0bd227739e4be3be1ac84c266cb25753fdfbbd7", func := "draghead/dragheadlaw06.SoilGrounds", spec := "soilGrounds", unfollowed := true, recurses := true, apart := false }
def SoilGroundsSaid : Prop := soilGroundsRow.holds Try.pinned (OpenSpec.ofChange soilGroundsSpec)

/-- ITS FALSE NEIGHBOUR: 'it returns false'. Refute it at one input. -/
def soilGroundsWrong : ChangeSpec := { name := "soilGrounds", fn := fun _ => fun
  | [d] => { results := [.lit (.bool false)], args := [d] }
  | _ => none }
def SoilGroundsWrongFalsely : Prop := soilGroundsRow.holds Try.pinned (OpenSpec.ofChange soilGroundsWrong)

/-- 'dragheadlaw06.SoilSlumps': WHATEVER THE INPUT: true; the input reads as it did. -/
def soilSlumpsSpec : ChangeSpec := { name := "soilSlumps", fn := fun _ => fun
  | [d1, d2] => { results := [.lit (.bool true)], args := [d1, d2] }
  | _ => none }
def soilSlumpsRow : OpenClaim := { program := "ytdedpndkohfgbaa", sum := "35ad6af66201d7ffd5e7c884c0bd227739e4be3be1ac84c266cb25753fdfbbd7", func := "draghead/dragheadlaw06.SoilSlumps", spec := "soilSlumps", unfollowed := true, recurses := true, apart := false }
def SoilSlumpsSaid : Prop := soilSlumpsRow.holds Try.pinned (OpenSpec.ofChange soilSlumpsSpec)

/-- ITS FALSE NEIGHBOUR: 'it returns false'. Refute it at one input. -/
def soilSlumpsWrong : ChangeSpec := { name := "soilSlumps", fn := fun _ => fun
  | [d1, d2] => { results := [.lit (.bool false)], args := [d1, d2] }
  | _ => none }
def SoilSlumpsWrongFalsely : Prop := soilSlumpsRow.holds Try.pinned (OpenSpec.ofChange soilSlumpsWrong)

/-- 'dragheadlaw06.SoilTurned': WHATEVER THE INPUT: true; the input reads as it did. -/
def soilTurnedSpec : ChangeSpec := { name := "soilTurned", fn := fun _ => fun
  | [d1, d2] => { results := [.lit (.bool true)], args := [d1, d2] }
  | _ => none }
def soilTurnedRow : OpenClaim := { program := "ytdedpndkohfgbaa", sum := "35ad6af66201d7ffd5e7c884c0bd227739e4be3be1ac84c266cb25753fdfbbd7", func := "draghead/dragheadlaw06.SoilTurned", spec := "soilTurned", unfollowed := true, recurses := true, apart := false }
def SoilTurnedSaid : Prop := soilTurnedRow.holds Try.pinned (OpenSpec.ofChange soilTurnedSpec)

/-- ITS FALSE NEIGHBOUR: 'it returns false'. Refute it at one input. -/
def soilTurnedWrong : ChangeSpec := { name := "soilTurned", fn := fun _ => fun
  | [d1, d2] => { results := [.lit (.bool false)], args := [d1, d2] }
  | _ => none }
def SoilTurnedWrongFalsely : Prop := soilTurnedRow.holds Try.pinned (OpenSpec.ofChange soilTurnedWrong)

/-- 'dragheadlaw06.SoilAmounts': WHATEVER THE INPUT: true; the input reads as it did. -/
def soilAmountsSpec : ChangeSpec := { name := "soilAmounts", fn := fun _ => fun
  | [d1, d2, d3] => { results := [.lit (.bool true)], args := [d1, d2, d3] }
  | _ => none }
def soilAmountsRow : OpenClaim := { program := "ytdedpndkohfgbaa", sum := "35ad6af66201d7ffd5e7c884c0bd227739e4be3be1ac84c266cb25753fdfbbd7", func := "draghead/dragheadlaw06.SoilAmounts", spec := "soilAmounts", unfollowed := true, recurses := true, apart := false }
def SoilAmountsSaid : Prop := soilAmountsRow.holds Try.pinned (OpenSpec.ofChange soilAmountsSpec)

/-- ITS FALSE NEIGHBOUR: 'it returns false'. Refute it at one input. -/
def soilAmountsWrong : ChangeSpec := { name := "soilAmounts", fn := fun _ => fun
  | [d1, d2, d3] => { results := [.lit (.bool false)], args := [d1, d2, d3] }
  | _ => none }
def SoilAmountsWrongFalsely : Prop := soilAmountsRow.holds Try.pinned (OpenSpec.ofChange soilAmountsWrong)

/-- 'dragheadlaw06.SoilCarries': WHATEVER THE INPUT: true; the input reads as it did. -/
def soilCarriesSpec : ChangeSpec := { name := "soilCarries", fn := fun _ => fun
  | [d1, d2, d3] => { results := [.lit (.bool true)], args := [d1, d2, d3] }
  | _ => none }
def soilCarriesRow : OpenClaim := { program := "ytdedpndkohfgbaa", sum := "35ad6af66201d7ffd5e7c884c0bd227739e4be3be1ac84c266cb25753fdfbbd7", func := "draghead/dragheadlaw06.SoilCarries", spec := "soilCarries", unfollowed := true, recurses := true, apart := false }
def SoilCarriesSaid : Prop := soilCarriesRow.holds Try.pinned (OpenSpec.ofChange soilCarriesSpec)

/-- ITS FALSE NEIGHBOUR: 'it returns false'. Refute it at one input. -/
def soilCarriesWrong : ChangeSpec := { name := "soilCarries", fn := fun _ => fun
  | [d1, d2, d3] => { results := [.lit (.bool false)], args := [d1, d2, d3] }
  | _ => none }
def SoilCarriesWrongFalsely : Prop := soilCarriesRow.holds Try.pinned (OpenSpec.ofChange soilCarriesWrong)

/-- 'dragheadlaw06.SoilStable': WHATEVER THE INPUT: true; the input reads as it did. -/
def soilStableSpec : ChangeSpec := { name := "soilStable", fn := fun _ => fun
  | [d1, d2, d3] => { results := [.lit (.bool true)], args := [d1, d2, d3] }
  | _ => none }
def soilStableRow : OpenClaim := { program := "ytdedpndkohfgbaa", sum := "35ad6af66201d7ffd5e7c884c0bd227739e4be3be1ac84c266cb25753fdfbbd7", func := "draghead/dragheadlaw06.SoilStable", spec := "soilStable", unfollowed := true, recurses := true, apart := false }
def SoilStableSaid : Prop := soilStableRow.holds Try.pinned (OpenSpec.ofChange soilStableSpec)

/-- ITS FALSE NEIGHBOUR: 'it returns false'. Refute it at one input. -/
def soilStableWrong : ChangeSpec := { name := "soilStable", fn := fun _ => fun
  | [d1, d2, d3] => { results := [.lit (.bool false)], args := [d1, d2, d3] }
  | _ => none }
def SoilStableWrongFalsely : Prop := soilStableRow.holds Try.pinned (OpenSpec.ofChange soilStableWrong)

/-- 'dragheadlaw06.SoilColumns': WHATEVER THE INPUT: true; the input reads as it did. -/
def soilColumnsSpec : ChangeSpec := { name := "soilColumns", fn := fun _ => fun
  | [d1, d2, d3] => { results := [.lit (.bool true)], args := [d1, d2, d3] }
  | _ => none }
def soilColumnsRow : OpenClaim := { program := "ytdedpndkohfgbaa", sum := "35ad6af66201d7ffd5e7c884c0bd227739e4be3be1ac84c266cb25753fdfbbd7", func := "draghead/dragheadlaw06.SoilColumns", spec := "soilColumns", unfollowed := true, recurses := true, apart := false }
def SoilColumnsSaid : Prop := soilColumnsRow.holds Try.pinned (OpenSpec.ofChange soilColumnsSpec)

/-- ITS FALSE NEIGHBOUR: 'it returns false'. Refute it at one input. -/
def soilColumnsWrong : ChangeSpec := { name := "soilColumns", fn := fun _ => fun
  | [d1, d2, d3] => { results := [.lit (.bool false)], args := [d1, d2, d3] }
  | _ => none }
def SoilColumnsWrongFalsely : Prop := soilColumnsRow.holds Try.pinned (OpenSpec.ofChange soilColumnsWrong)

/-- 'dragheadlaw06.SoilPlaces': WHATEVER THE INPUT: true; the input reads as it did. -/
def soilPlacesSpec : ChangeSpec := { name := "soilPlaces", fn := fun _ => fun
  | [d1, d2, d3] => { results := [.lit (.bool true)], args := [d1, d2, d3] }
  | _ => none }
def soilPlacesRow : OpenClaim := { program := "ytdedpndkohfgbaa", sum := "35ad6af66201d7ffd5e7c884c0bd227739e4be3be1ac84c266cb25753fdfbbd7", func := "draghead/dragheadlaw06.SoilPlaces", spec := "soilPlaces", unfollowed := true, recurses := true, apart := false }
def SoilPlacesSaid : Prop := soilPlacesRow.holds Try.pinned (OpenSpec.ofChange soilPlacesSpec)

/-- ITS FALSE NEIGHBOUR: 'it returns false'. Refute it at one input. -/
def soilPlacesWrong : ChangeSpec := { name := "soilPlaces", fn := fun _ => fun
  | [d1, d2, d3] => { results := [.lit (.bool false)], args := [d1, d2, d3] }
  | _ => none }
def SoilPlacesWrongFalsely : Prop := soilPlacesRow.holds Try.pinned (OpenSpec.ofChange soilPlacesWrong)

/-- 'dragheadlaw06.SoilShares': WHATEVER THE INPUT: true; the input reads as it did. -/
def soilSharesSpec : ChangeSpec := { name := "soilShares", fn := fun _ => fun
  | [d1, d2, d3] => { results := [.lit (.bool true)], args := [d1, d2, d3] }
  | _ => none }
def soilSharesRow : OpenClaim := { program := "ytdedpndkohfgbaa", sum := "35ad6af66201d7ffd5e7c884c0bd227739e4be3be1ac84c266cb25753fdfbbd7", func := "draghead/dragheadlaw06.SoilShares", spec := "soilShares", unfollowed := true, recurses := true, apart := false }
def SoilSharesSaid : Prop := soilSharesRow.holds Try.pinned (OpenSpec.ofChange soilSharesSpec)

/-- ITS FALSE NEIGHBOUR: 'it returns false'. Refute it at one input. -/
def soilSharesWrong : ChangeSpec := { name := "soilShares", fn := fun _ => fun
  | [d1, d2, d3] => { results := [.lit (.bool false)], args := [d1, d2, d3] }
  | _ => none }
def SoilSharesWrongFalsely : Prop := soilSharesRow.holds Try.pinned (OpenSpec.ofChange soilSharesWrong)

/-- 'dragheadlaw06.SoilProves': WHATEVER THE INPUT: true; the input reads as it did. -/
def soilProvesSpec : ChangeSpec := { name := "soilProves", fn := fun _ => fun
  | [d1, d2, d3] => { results := [.lit (.bool true)], args := [d1, d2, d3] }
  | _ => none }
def soilProvesRow : OpenClaim := { program := "ytdedpndkohfgbaa", sum := "35ad6af66201d7ffd5e7c884c0bd227739e4be3be1ac84c266cb25753fdfbbd7", func := "draghead/dragheadlaw06.SoilProves", spec := "soilProves", unfollowed := true, recurses := true, apart := false }
def SoilProvesSaid : Prop := soilProvesRow.holds Try.pinned (OpenSpec.ofChange soilProvesSpec)

/-- ITS FALSE NEIGHBOUR: 'it returns false'. Refute it at one input. -/
def soilProvesWrong : ChangeSpec := { name := "soilProves", fn := fun _ => fun
  | [d1, d2, d3] => { results := [.lit (.bool false)], args := [d1, d2, d3] }
  | _ => none }
def SoilProvesWrongFalsely : Prop := soilProvesRow.holds Try.pinned (OpenSpec.ofChange soilProvesWrong)

/-- 'dragheadlaw06.SoilSlopes': WHATEVER THE INPUT: true; the input reads as it did. -/
def soilSlopesSpec : ChangeSpec := { name := "soilSlopes", fn := fun _ => fun
  | [d1, d2, d3] => { results := [.lit (.bool true)], args := [d1, d2, d3] }
  | _ => none }
def soilSlopesRow : OpenClaim := { program := "ytdedpndkohfgbaa", sum := "35ad6af66201d7ffd5e7c884c0bd227739e4be3be1ac84c266cb25753fdfbbd7", func := "draghead/dragheadlaw06.SoilSlopes", spec := "soilSlopes", unfollowed := true, recurses := true, apart := false }
def SoilSlopesSaid : Prop := soilSlopesRow.holds Try.pinned (OpenSpec.ofChange soilSlopesSpec)

/-- ITS FALSE NEIGHBOUR: 'it returns false'. Refute it at one input. -/
def soilSlopesWrong : ChangeSpec := { name := "soilSlopes", fn := fun _ => fun
  | [d1, d2, d3] => { results := [.lit (.bool false)], args := [d1, d2, d3] }
  | _ => none }
def SoilSlopesWrongFalsely : Prop := soilSlopesRow.holds Try.pinned (OpenSpec.ofChange soilSlopesWrong)

/-- 'dragheadlaw06.SoilChosen': WHATEVER THE INPUT: true; the input reads as it did. -/
def soilChosenSpec : ChangeSpec := { name := "soilChosen", fn := fun _ => fun
  | [d1, d2] => { results := [.lit (.bool true)], args := [d1, d2] }
  | _ => none }
def soilChosenRow : OpenClaim := { program := "ytdedpndkohfgbaa", sum := "35ad6af66201d7ffd5e7c884c0bd227739e4be3be1ac84c266cb25753fdfbbd7", func := "draghead/dragheadlaw06.SoilChosen", spec := "soilChosen", unfollowed := true, recurses := true, apart := false }
def SoilChosenSaid : Prop := soilChosenRow.holds Try.pinned (OpenSpec.ofChange soilChosenSpec)

/-- ITS FALSE NEIGHBOUR: 'it returns false'. Refute it at one input. -/
def soilChosenWrong : ChangeSpec := { name := "soilChosen", fn := fun _ => fun
  | [d1, d2] => { results := [.lit (.bool false)], args := [d1, d2] }
  | _ => none }
def SoilChosenWrongFalsely : Prop := soilChosenRow.holds Try.pinned (OpenSpec.ofChange soilChosenWrong)

/-- 'dragheadtop.TopSlumpOnce': WHATEVER THE INPUT: true; the input reads as it did. -/
def topSlumpOnceSpec : ChangeSpec := { name := "topSlumpOnce", fn := fun _ => fun
  | [d1, d2, d3] => { results := [.lit (.bool true)], args := [d1, d2, d3] }
  | _ => none }
def topSlumpOnceRow : OpenClaim := { program := "ytdedpndkohfgbaa", sum := "35ad6af66201d7ffd5e7c884c0bd227739e4be3be1ac84c266cb25753fdfbbd7", func := "draghead/dragheadtop.TopSlumpOnce", spec := "topSlumpOnce", unfollowed := true, recurses := true, apart := false }
def TopSlumpOnceSaid : Prop := topSlumpOnceRow.holds Try.pinned (OpenSpec.ofChange topSlumpOnceSpec)

/-- ITS FALSE NEIGHBOUR: 'it returns false'. Refute it at one input. -/
def topSlumpOnceWrong : ChangeSpec := { name := "topSlumpOnce", fn := fun _ => fun
  | [d1, d2, d3] => { results := [.lit (.bool false)], args := [d1, d2, d3] }
  | _ => none }
def TopSlumpOnceWrongFalsely : Prop := topSlumpOnceRow.holds Try.pinned (OpenSpec.ofChange topSlumpOnceWrong)

/-- 'dragheadlaw06.SoilRanks': WHATEVER THE INPUT: true; the input reads as it did. -/
def soilRanksSpec : ChangeSpec := { name := "soilRanks", fn := fun _ => fun
  | [d1, d2, d3] => { results := [.lit (.bool true)], args := [d1, d2, d3] }
  | _ => none }
def soilRanksRow : OpenClaim := { program := "ytdedpndkohfgbaa", sum := "35ad6af66201d7ffd5e7c884c0bd227739e4be3be1ac84c266cb25753fdfbbd7", func := "draghead/dragheadlaw06.SoilRanks", spec := "soilRanks", unfollowed := true, recurses := true, apart := false }
def SoilRanksSaid : Prop := soilRanksRow.holds Try.pinned (OpenSpec.ofChange soilRanksSpec)

/-- ITS FALSE NEIGHBOUR: 'it returns false'. Refute it at one input. -/
def soilRanksWrong : ChangeSpec := { name := "soilRanks", fn := fun _ => fun
  | [d1, d2, d3] => { results := [.lit (.bool false)], args := [d1, d2, d3] }
  | _ => none }
def SoilRanksWrongFalsely : Prop := soilRanksRow.holds Try.pinned (OpenSpec.ofChange soilRanksWrong)

/-- 'dragheadtop.TopWedges': WHATEVER THE INPUT: true; the input reads as it did. -/
def topWedgesSpec : ChangeSpec := { name := "topWedges", fn := fun _ => fun
  | [d1, d2] => { results := [.lit (.bool true)], args := [d1, d2] }
  | _ => none }
def topWedgesRow : OpenClaim := { program := "ytdedpndkohfgbaa", sum := "35ad6af66201d7ffd5e7c884c0bd227739e4be3be1ac84c266cb25753fdfbbd7", func := "draghead/dragheadtop.TopWedges", spec := "topWedges", inPlace := ["math.sqrt"], unfollowed := true, recurses := true, apart := false }
def TopWedgesSaid : Prop := topWedgesRow.holds Try.pinned (OpenSpec.ofChange topWedgesSpec)

/-- ITS FALSE NEIGHBOUR: 'it returns false'. Refute it at one input. -/
def topWedgesWrong : ChangeSpec := { name := "topWedges", fn := fun _ => fun
  | [d1, d2] => { results := [.lit (.bool false)], args := [d1, d2] }
  | _ => none }
def TopWedgesWrongFalsely : Prop := topWedgesRow.holds Try.pinned (OpenSpec.ofChange topWedgesWrong)

/- THE SECOND FORM. 'bulk': how many values and letters a reading holds, each counted each time it is reached (what is shared counts as often as it is met; a slice's spare places count too). A statement '..UptoSaid' is the law's where the arguments, and the package variables that the reading takes, are together of bulk at most 1048576: NARROWER than '..Said'. Prove '..Said' where nothing that the law and all that it calls make is longer than what came in: it says more and counts as full. Else prove '..UptoSaid'. A law counts once. -/
mutual
def uptoBulk {H : Type} : DataW H → Nat
  | .lit (.string bytes) => bytes.length + 1
  | .lit _ => 1
  | .nil => 1
  | .ptr d => uptoBulk d + 1
  | .slice elems spare => uptoBulkAll elems + uptoBulkAll spare + 1
  | .agg parts => uptoBulkAll parts + 1
  | .iface _ d => uptoBulk d + 1
  | .map entries => uptoBulkEntries entries + 1
  | .held _ => 1
def uptoBulkAll {H : Type} : List (DataW H) → Nat
  | [] => 0
  | d :: r => uptoBulk d + uptoBulkAll r
def uptoBulkEntries {H : Type} : List (Lit × DataW H) → Nat
  | [] => 0
  | x :: r => uptoBulkEntry x + uptoBulkEntries r
def uptoBulkEntry {H : Type} : Lit × DataW H → Nat
  | (.string bytes, d) => bytes.length + uptoBulk d + 1
  | (_, d) => uptoBulk d + 1
 end
def uptoSmall : (H : Type) → List (DataW H) → Bool := fun _ ds => decide (uptoBulkAll ds ≤ 1048576)
def OpenSpec.upto (s : _root_.Go.ChangeSpec) : _root_.Go.OpenSpec := { _root_.Go.OpenSpec.ofChange s with cond := some uptoSmall }

/-- 'dragheadlaw06.SoilGrounds', WHERE WHAT IT READS IS OF BULK AT MOST 1048576: true; the input reads as it did. -/
def soilGroundsUptoRow : OpenClaim := { program := "ytdedpndkohfgbaa", sum := "35ad6af66201d7ffd5e7c884c0bd227739e4be3be1ac84c266cb25753fdfbbd7", func := "draghead/dragheadlaw06.SoilGrounds", spec := "soilGrounds", unfollowed := true, recurses := true, apart := false, narrowed := true }
def SoilGroundsUptoSaid : Prop := soilGroundsUptoRow.holds Try.pinned (OpenSpec.upto soilGroundsSpec)

/-- 'dragheadlaw06.SoilSlumps', WHERE WHAT IT READS IS OF BULK AT MOST 1048576: true; the input reads as it did. -/
def soilSlumpsUptoRow : OpenClaim := { program := "ytdedpndkohfgbaa", sum := "35ad6af66201d7ffd5e7c884c0bd227739e4be3be1ac84c266cb25753fdfbbd7", func := "draghead/dragheadlaw06.SoilSlumps", spec := "soilSlumps", unfollowed := true, recurses := true, apart := false, narrowed := true }
def SoilSlumpsUptoSaid : Prop := soilSlumpsUptoRow.holds Try.pinned (OpenSpec.upto soilSlumpsSpec)

/-- 'dragheadlaw06.SoilTurned', WHERE WHAT IT READS IS OF BULK AT MOST 1048576: true; the input reads as it did. -/
def soilTurnedUptoRow : OpenClaim := { program := "ytdedpndkohfgbaa", sum := "35ad6af66201d7ffd5e7c884c0bd227739e4be3be1ac84c266cb25753fdfbbd7", func := "draghead/dragheadlaw06.SoilTurned", spec := "soilTurned", unfollowed := true, recurses := true, apart := false, narrowed := true }
def SoilTurnedUptoSaid : Prop := soilTurnedUptoRow.holds Try.pinned (OpenSpec.upto soilTurnedSpec)

/-- 'dragheadlaw06.SoilAmounts', WHERE WHAT IT READS IS OF BULK AT MOST 1048576: true; the input reads as it did. -/
def soilAmountsUptoRow : OpenClaim := { program := "ytdedpndkohfgbaa", sum := "35ad6af66201d7ffd5e7c884c0bd227739e4be3be1ac84c266cb25753fdfbbd7", func := "draghead/dragheadlaw06.SoilAmounts", spec := "soilAmounts", unfollowed := true, recurses := true, apart := false, narrowed := true }
def SoilAmountsUptoSaid : Prop := soilAmountsUptoRow.holds Try.pinned (OpenSpec.upto soilAmountsSpec)

/-- 'dragheadlaw06.SoilCarries', WHERE WHAT IT READS IS OF BULK AT MOST 1048576: true; the input reads as it did. -/
def soilCarriesUptoRow : OpenClaim := { program := "ytdedpndkohfgbaa", sum := "35ad6af66201d7ffd5e7c884c0bd227739e4be3be1ac84c266cb25753fdfbbd7", func := "draghead/dragheadlaw06.SoilCarries", spec := "soilCarries", unfollowed := true, recurses := true, apart := false, narrowed := true }
def SoilCarriesUptoSaid : Prop := soilCarriesUptoRow.holds Try.pinned (OpenSpec.upto soilCarriesSpec)

/-- 'dragheadlaw06.SoilStable', WHERE WHAT IT READS IS OF BULK AT MOST 1048576: true; the input reads as it did. -/
def soilStableUptoRow : OpenClaim := { program := "ytdedpndkohfgbaa", sum := "35ad6af66201d7ffd5e7c884c0bd227739e4be3be1ac84c266cb25753fdfbbd7", func := "draghead/dragheadlaw06.SoilStable", spec := "soilStable", unfollowed := true, recurses := true, apart := false, narrowed := true }
def SoilStableUptoSaid : Prop := soilStableUptoRow.holds Try.pinned (OpenSpec.upto soilStableSpec)

/-- 'dragheadlaw06.SoilColumns', WHERE WHAT IT READS IS OF BULK AT MOST 1048576: true; the input reads as it did. -/
def soilColumnsUptoRow : OpenClaim := { program := "ytdedpndkohfgbaa", sum := "35ad6af66201d7ffd5e7c884c0bd227739e4be3be1ac84c266cb25753fdfbbd7", func := "draghead/dragheadlaw06.SoilColumns", spec := "soilColumns", unfollowed := true, recurses := true, apart := false, narrowed := true }
def SoilColumnsUptoSaid : Prop := soilColumnsUptoRow.holds Try.pinned (OpenSpec.upto soilColumnsSpec)

/-- 'dragheadlaw06.SoilPlaces', WHERE WHAT IT READS IS OF BULK AT MOST 1048576: true; the input reads as it did. -/
def soilPlacesUptoRow : OpenClaim := { program := "ytdedpndkohfgbaa", sum := "35ad6af66201d7ffd5e7c884c0bd227739e4be3be1ac84c266cb25753fdfbbd7", func := "draghead/dragheadlaw06.SoilPlaces", spec := "soilPlaces", unfollowed := true, recurses := true, apart := false, narrowed := true }
def SoilPlacesUptoSaid : Prop := soilPlacesUptoRow.holds Try.pinned (OpenSpec.upto soilPlacesSpec)

/-- 'dragheadlaw06.SoilShares', WHERE WHAT IT READS IS OF BULK AT MOST 1048576: true; the input reads as it did. -/
def soilSharesUptoRow : OpenClaim := { program := "ytdedpndkohfgbaa", sum := "35ad6af66201d7ffd5e7c884c0bd227739e4be3be1ac84c266cb25753fdfbbd7", func := "draghead/dragheadlaw06.SoilShares", spec := "soilShares", unfollowed := true, recurses := true, apart := false, narrowed := true }
def SoilSharesUptoSaid : Prop := soilSharesUptoRow.holds Try.pinned (OpenSpec.upto soilSharesSpec)

/-- 'dragheadlaw06.SoilProves', WHERE WHAT IT READS IS OF BULK AT MOST 1048576: true; the input reads as it did. -/
def soilProvesUptoRow : OpenClaim := { program := "ytdedpndkohfgbaa", sum := "35ad6af66201d7ffd5e7c884c0bd227739e4be3be1ac84c266cb25753fdfbbd7", func := "draghead/dragheadlaw06.SoilProves", spec := "soilProves", unfollowed := true, recurses := true, apart := false, narrowed := true }
def SoilProvesUptoSaid : Prop := soilProvesUptoRow.holds Try.pinned (OpenSpec.upto soilProvesSpec)

/-- 'dragheadlaw06.SoilSlopes', WHERE WHAT IT READS IS OF BULK AT MOST 1048576: true; the input reads as it did. -/
def soilSlopesUptoRow : OpenClaim := { program := "ytdedpndkohfgbaa", sum := "35ad6af66201d7ffd5e7c884c0bd227739e4be3be1ac84c266cb25753fdfbbd7", func := "draghead/dragheadlaw06.SoilSlopes", spec := "soilSlopes", unfollowed := true, recurses := true, apart := false, narrowed := true }
def SoilSlopesUptoSaid : Prop := soilSlopesUptoRow.holds Try.pinned (OpenSpec.upto soilSlopesSpec)

/-- 'dragheadlaw06.SoilChosen', WHERE WHAT IT READS IS OF BULK AT MOST 1048576: true; the input reads as it did. -/
def soilChosenUptoRow : OpenClaim := { program := "ytdedpndkohfgbaa", sum := "35ad6af66201d7ffd5e7c884c0bd227739e4be3be1ac84c266cb25753fdfbbd7", func := "draghead/dragheadlaw06.SoilChosen", spec := "soilChosen", unfollowed := true, recurses := true, apart := false, narrowed := true }
def SoilChosenUptoSaid : Prop := soilChosenUptoRow.holds Try.pinned (OpenSpec.upto soilChosenSpec)

/-- 'dragheadtop.TopSlumpOnce', WHERE WHAT IT READS IS OF BULK AT MOST 1048576: true; the input reads as it did. -/
def topSlumpOnceUptoRow : OpenClaim := { program := "ytdedpndkohfgbaa", sum := "35ad6af66201d7ffd5e7c884c0bd227739e4be3be1ac84c266cb25753fdfbbd7", func := "draghead/dragheadtop.TopSlumpOnce", spec := "topSlumpOnce", unfollowed := true, recurses := true, apart := false, narrowed := true }
def TopSlumpOnceUptoSaid : Prop := topSlumpOnceUptoRow.holds Try.pinned (OpenSpec.upto topSlumpOnceSpec)

/-- 'dragheadlaw06.SoilRanks', WHERE WHAT IT READS IS OF BULK AT MOST 1048576: true; the input reads as it did. -/
def soilRanksUptoRow : OpenClaim := { program := "ytdedpndkohfgbaa", sum := "35ad6af66201d7ffd5e7c884c0bd227739e4be3be1ac84c266cb25753fdfbbd7", func := "draghead/dragheadlaw06.SoilRanks", spec := "soilRanks", unfollowed := true, recurses := true, apart := false, narrowed := true }
def SoilRanksUptoSaid : Prop := soilRanksUptoRow.holds Try.pinned (OpenSpec.upto soilRanksSpec)

/-- 'dragheadtop.TopWedges', WHERE WHAT IT READS IS OF BULK AT MOST 1048576: true; the input reads as it did. -/
def topWedgesUptoRow : OpenClaim := { program := "ytdedpndkohfgbaa", sum := "35ad6af66201d7ffd5e7c884c0bd227739e4be3be1ac84c266cb25753fdfbbd7", func := "draghead/dragheadtop.TopWedges", spec := "topWedges", inPlace := ["math.sqrt"], unfollowed := true, recurses := true, apart := false, narrowed := true }
def TopWedgesUptoSaid : Prop := topWedgesUptoRow.holds Try.pinned (OpenSpec.upto topWedgesSpec)

end Rows
end Go.Proofs.Ytdedpndkohfgbaa
