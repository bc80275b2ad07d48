/-
  No cell of these rows narrows 'for every input' (looked for: loops, veiled, ifaces, maps, wideKeys, modest, calm, conditions, laid).
  DERIVED. THE GIVEN ROWS OF THIS SEAT. 16 by the template 'for every input the law returns true; each argument reads behind the call as it read before'; 0 by the template 'total and deterministic' (their statements: YtfklpkgdobdbpaaGreatTotals.lean).
  GIVEN WITH THE SEED: the statements are not yours to turn. If you find one false, say at which input.
  Laid BY PROGRAM, IN A SANDBOX (cutbox-rows.mjs): the forced cells as the released guide's own fill.sh prints them over the translation 63287712cd7d349e… (all of the seat's roots in one cut). By AI agents, Wed Nov 11 2026. No macro, syntax, notation, axiom, sorry.
-/
import Derived.Test.YtfklpkgdobdbpaaGreatChecked
import GoSem.Claim
import GoSem.ClaimJoined
import GoSem.ClaimMapViews
import Derived.JoinedTies
import Derived.KernelRfl
namespace Go.Proofs.YtfklpkgdobdbpaaGreat
/- THE CELL 'sum', in the pinned program and in every row, IS THE sha256 OF THE DUMP (.gsa) THAT YtfklpkgdobdbpaaGreatProg.lean LOADS. Nothing in Lean hashes anything: it is a label: what it is worth is what the hold of that sum in a sandbox is worth. -/
noncomputable def Tryz.pinned : Pinned := { name := "ytfklpkgdobdbpaagreat", sum := "63287712cd7d349e042c582e23dcf750cb517bfeb8c14621fb751af5e9edcfc8", checked := Tryz.checked }
namespace Rows
def none {H : Type} : Left H := { results := [], args := [] }

/-- 'dragheadlaw07.CutSites': WHATEVER THE INPUT: true; the input reads as it did. -/
def cutSitesSpec : ChangeSpec := { name := "cutSites", fn := fun _ => fun
  | [d1, d2, d3] => { results := [.lit (.bool true)], args := [d1, d2, d3] }
  | _ => none }
def cutSitesRow : OpenClaim := { program := "ytfklpkgdobdbpaagreat", sum := "63287712cd7d349e042c582e23dcf750cb517bfeb8c14621fb751af5e9edcfc8", func := "draghead/dragheadlaw07.CutSites", spec := "cutSites", inPlace := ["math.sqrt"], unfollowed := true, recurses := true, apart := false }
def CutSitesSaid : Prop := cutSitesRow.holds Tryz.pinned (OpenSpec.ofChange cutSitesSpec)

/-- ITS FALSE NEIGHBOUR: 'it returns false'. Refute it at one input. -/
def cutSitesWrong : ChangeSpec := { name := "cutSites", fn := fun _ => fun
  | [d1, d2, d3] => { results := [.lit (.bool false)], args := [d1, d2, d3] }
  | _ => none }
def CutSitesWrongFalsely : Prop := cutSitesRow.holds Tryz.pinned (OpenSpec.ofChange cutSitesWrong)

/-- 'dragheadlaw07.CutRefusals': WHATEVER THE INPUT: true; the input reads as it did. -/
def cutRefusalsSpec : ChangeSpec := { name := "cutRefusals", fn := fun _ => fun
  | [d1, d2, d3] => { results := [.lit (.bool true)], args := [d1, d2, d3] }
  | _ => none }
def cutRefusalsRow : OpenClaim := { program := "ytfklpkgdobdbpaagreat", sum := "63287712cd7d349e042c582e23dcf750cb517bfeb8c14621fb751af5e9edcfc8", func := "draghead/dragheadlaw07.CutRefusals", spec := "cutRefusals", inPlace := ["math.sqrt"], unfollowed := true, recurses := true, apart := false }
def CutRefusalsSaid : Prop := cutRefusalsRow.holds Tryz.pinned (OpenSpec.ofChange cutRefusalsSpec)

/-- ITS FALSE NEIGHBOUR: 'it returns false'. Refute it at one input. -/
def cutRefusalsWrong : ChangeSpec := { name := "cutRefusals", fn := fun _ => fun
  | [d1, d2, d3] => { results := [.lit (.bool false)], args := [d1, d2, d3] }
  | _ => none }
def CutRefusalsWrongFalsely : Prop := cutRefusalsRow.holds Tryz.pinned (OpenSpec.ofChange cutRefusalsWrong)

/-- 'dragheadlaw07.CutDeeper': WHATEVER THE INPUT: true; the input reads as it did. -/
def cutDeeperSpec : ChangeSpec := { name := "cutDeeper", fn := fun _ => fun
  | [d1, d2, d3] => { results := [.lit (.bool true)], args := [d1, d2, d3] }
  | _ => none }
def cutDeeperRow : OpenClaim := { program := "ytfklpkgdobdbpaagreat", sum := "63287712cd7d349e042c582e23dcf750cb517bfeb8c14621fb751af5e9edcfc8", func := "draghead/dragheadlaw07.CutDeeper", spec := "cutDeeper", inPlace := ["math.sqrt"], unfollowed := true, recurses := true, apart := false }
def CutDeeperSaid : Prop := cutDeeperRow.holds Tryz.pinned (OpenSpec.ofChange cutDeeperSpec)

/-- ITS FALSE NEIGHBOUR: 'it returns false'. Refute it at one input. -/
def cutDeeperWrong : ChangeSpec := { name := "cutDeeper", fn := fun _ => fun
  | [d1, d2, d3] => { results := [.lit (.bool false)], args := [d1, d2, d3] }
  | _ => none }
def CutDeeperWrongFalsely : Prop := cutDeeperRow.holds Tryz.pinned (OpenSpec.ofChange cutDeeperWrong)

/-- 'dragheadlaw07.CutCheapest': WHATEVER THE INPUT: true; the input reads as it did. -/
def cutCheapestSpec : ChangeSpec := { name := "cutCheapest", fn := fun _ => fun
  | [d1, d2] => { results := [.lit (.bool true)], args := [d1, d2] }
  | _ => none }
def cutCheapestRow : OpenClaim := { program := "ytfklpkgdobdbpaagreat", sum := "63287712cd7d349e042c582e23dcf750cb517bfeb8c14621fb751af5e9edcfc8", func := "draghead/dragheadlaw07.CutCheapest", spec := "cutCheapest", inPlace := ["math.sqrt"], unfollowed := true, recurses := true, apart := false }
def CutCheapestSaid : Prop := cutCheapestRow.holds Tryz.pinned (OpenSpec.ofChange cutCheapestSpec)

/-- ITS FALSE NEIGHBOUR: 'it returns false'. Refute it at one input. -/
def cutCheapestWrong : ChangeSpec := { name := "cutCheapest", fn := fun _ => fun
  | [d1, d2] => { results := [.lit (.bool false)], args := [d1, d2] }
  | _ => none }
def CutCheapestWrongFalsely : Prop := cutCheapestRow.holds Tryz.pinned (OpenSpec.ofChange cutCheapestWrong)

/-- 'dragheadlaw07.CutSums': WHATEVER THE INPUT: true; the input reads as it did. -/
def cutSumsSpec : ChangeSpec := { name := "cutSums", fn := fun _ => fun
  | [d1, d2] => { results := [.lit (.bool true)], args := [d1, d2] }
  | _ => none }
def cutSumsRow : OpenClaim := { program := "ytfklpkgdobdbpaagreat", sum := "63287712cd7d349e042c582e23dcf750cb517bfeb8c14621fb751af5e9edcfc8", func := "draghead/dragheadlaw07.CutSums", spec := "cutSums", inPlace := ["math.sqrt"], unfollowed := true, recurses := true, apart := false }
def CutSumsSaid : Prop := cutSumsRow.holds Tryz.pinned (OpenSpec.ofChange cutSumsSpec)

/-- ITS FALSE NEIGHBOUR: 'it returns false'. Refute it at one input. -/
def cutSumsWrong : ChangeSpec := { name := "cutSums", fn := fun _ => fun
  | [d1, d2] => { results := [.lit (.bool false)], args := [d1, d2] }
  | _ => none }
def CutSumsWrongFalsely : Prop := cutSumsRow.holds Tryz.pinned (OpenSpec.ofChange cutSumsWrong)

/-- 'dragheadlaw07.CutCuts': WHATEVER THE INPUT: true; the input reads as it did. -/
def cutCutsSpec : ChangeSpec := { name := "cutCuts", fn := fun _ => fun
  | [d1, d2, d3] => { results := [.lit (.bool true)], args := [d1, d2, d3] }
  | _ => none }
def cutCutsRow : OpenClaim := { program := "ytfklpkgdobdbpaagreat", sum := "63287712cd7d349e042c582e23dcf750cb517bfeb8c14621fb751af5e9edcfc8", func := "draghead/dragheadlaw07.CutCuts", spec := "cutCuts", inPlace := ["math.sqrt"], unfollowed := true, recurses := true, apart := false }
def CutCutsSaid : Prop := cutCutsRow.holds Tryz.pinned (OpenSpec.ofChange cutCutsSpec)

/-- ITS FALSE NEIGHBOUR: 'it returns false'. Refute it at one input. -/
def cutCutsWrong : ChangeSpec := { name := "cutCuts", fn := fun _ => fun
  | [d1, d2, d3] => { results := [.lit (.bool false)], args := [d1, d2, d3] }
  | _ => none }
def CutCutsWrongFalsely : Prop := cutCutsRow.holds Tryz.pinned (OpenSpec.ofChange cutCutsWrong)

/-- 'dragheadlaw07.CutOrders': WHATEVER THE INPUT: true; the input reads as it did. -/
def cutOrdersSpec : ChangeSpec := { name := "cutOrders", fn := fun _ => fun
  | [d1, d2] => { results := [.lit (.bool true)], args := [d1, d2] }
  | _ => none }
def cutOrdersRow : OpenClaim := { program := "ytfklpkgdobdbpaagreat", sum := "63287712cd7d349e042c582e23dcf750cb517bfeb8c14621fb751af5e9edcfc8", func := "draghead/dragheadlaw07.CutOrders", spec := "cutOrders", inPlace := ["math.sqrt"], unfollowed := true, recurses := true, apart := false }
def CutOrdersSaid : Prop := cutOrdersRow.holds Tryz.pinned (OpenSpec.ofChange cutOrdersSpec)

/-- ITS FALSE NEIGHBOUR: 'it returns false'. Refute it at one input. -/
def cutOrdersWrong : ChangeSpec := { name := "cutOrders", fn := fun _ => fun
  | [d1, d2] => { results := [.lit (.bool false)], args := [d1, d2] }
  | _ => none }
def CutOrdersWrongFalsely : Prop := cutOrdersRow.holds Tryz.pinned (OpenSpec.ofChange cutOrdersWrong)

/-- 'dragheadlaw07.CutProofs': WHATEVER THE INPUT: true; the input reads as it did. -/
def cutProofsSpec : ChangeSpec := { name := "cutProofs", fn := fun _ => fun
  | [d1, d2, d3] => { results := [.lit (.bool true)], args := [d1, d2, d3] }
  | _ => none }
def cutProofsRow : OpenClaim := { program := "ytfklpkgdobdbpaagreat", sum := "63287712cd7d349e042c582e23dcf750cb517bfeb8c14621fb751af5e9edcfc8", func := "draghead/dragheadlaw07.CutProofs", spec := "cutProofs", inPlace := ["math.sqrt"], unfollowed := true, recurses := true, apart := false }
def CutProofsSaid : Prop := cutProofsRow.holds Tryz.pinned (OpenSpec.ofChange cutProofsSpec)

/-- ITS FALSE NEIGHBOUR: 'it returns false'. Refute it at one input. -/
def cutProofsWrong : ChangeSpec := { name := "cutProofs", fn := fun _ => fun
  | [d1, d2, d3] => { results := [.lit (.bool false)], args := [d1, d2, d3] }
  | _ => none }
def CutProofsWrongFalsely : Prop := cutProofsRow.holds Tryz.pinned (OpenSpec.ofChange cutProofsWrong)

/-- 'dragheadlaw07.CutKept': WHATEVER THE INPUT: true; the input reads as it did. -/
def cutKeptSpec : ChangeSpec := { name := "cutKept", fn := fun _ => fun
  | [d1, d2] => { results := [.lit (.bool true)], args := [d1, d2] }
  | _ => none }
def cutKeptRow : OpenClaim := { program := "ytfklpkgdobdbpaagreat", sum := "63287712cd7d349e042c582e23dcf750cb517bfeb8c14621fb751af5e9edcfc8", func := "draghead/dragheadlaw07.CutKept", spec := "cutKept", inPlace := ["math.sqrt"], unfollowed := true, recurses := true, apart := false }
def CutKeptSaid : Prop := cutKeptRow.holds Tryz.pinned (OpenSpec.ofChange cutKeptSpec)

/-- ITS FALSE NEIGHBOUR: 'it returns false'. Refute it at one input. -/
def cutKeptWrong : ChangeSpec := { name := "cutKept", fn := fun _ => fun
  | [d1, d2] => { results := [.lit (.bool false)], args := [d1, d2] }
  | _ => none }
def CutKeptWrongFalsely : Prop := cutKeptRow.holds Tryz.pinned (OpenSpec.ofChange cutKeptWrong)

/-- 'dragheadlaw07.CutCells': WHATEVER THE INPUT: true; the input reads as it did. -/
def cutCellsSpec : ChangeSpec := { name := "cutCells", fn := fun _ => fun
  | [d1, d2, d3] => { results := [.lit (.bool true)], args := [d1, d2, d3] }
  | _ => none }
def cutCellsRow : OpenClaim := { program := "ytfklpkgdobdbpaagreat", sum := "63287712cd7d349e042c582e23dcf750cb517bfeb8c14621fb751af5e9edcfc8", func := "draghead/dragheadlaw07.CutCells", spec := "cutCells", inPlace := ["math.sqrt"], unfollowed := true, recurses := true, apart := false }
def CutCellsSaid : Prop := cutCellsRow.holds Tryz.pinned (OpenSpec.ofChange cutCellsSpec)

/-- ITS FALSE NEIGHBOUR: 'it returns false'. Refute it at one input. -/
def cutCellsWrong : ChangeSpec := { name := "cutCells", fn := fun _ => fun
  | [d1, d2, d3] => { results := [.lit (.bool false)], args := [d1, d2, d3] }
  | _ => none }
def CutCellsWrongFalsely : Prop := cutCellsRow.holds Tryz.pinned (OpenSpec.ofChange cutCellsWrong)

/-- 'dragheadlaw07.CutPlans': WHATEVER THE INPUT: true; the input reads as it did. -/
def cutPlansSpec : ChangeSpec := { name := "cutPlans", fn := fun _ => fun
  | [d1, d2, d3] => { results := [.lit (.bool true)], args := [d1, d2, d3] }
  | _ => none }
def cutPlansRow : OpenClaim := { program := "ytfklpkgdobdbpaagreat", sum := "63287712cd7d349e042c582e23dcf750cb517bfeb8c14621fb751af5e9edcfc8", func := "draghead/dragheadlaw07.CutPlans", spec := "cutPlans", inPlace := ["math.sqrt"], unfollowed := true, recurses := true, apart := false }
def CutPlansSaid : Prop := cutPlansRow.holds Tryz.pinned (OpenSpec.ofChange cutPlansSpec)

/-- ITS FALSE NEIGHBOUR: 'it returns false'. Refute it at one input. -/
def cutPlansWrong : ChangeSpec := { name := "cutPlans", fn := fun _ => fun
  | [d1, d2, d3] => { results := [.lit (.bool false)], args := [d1, d2, d3] }
  | _ => none }
def CutPlansWrongFalsely : Prop := cutPlansRow.holds Tryz.pinned (OpenSpec.ofChange cutPlansWrong)

/-- 'dragheadlaw07.CutPrefixes': WHATEVER THE INPUT: true; the input reads as it did. -/
def cutPrefixesSpec : ChangeSpec := { name := "cutPrefixes", fn := fun _ => fun
  | [d1, d2, d3] => { results := [.lit (.bool true)], args := [d1, d2, d3] }
  | _ => none }
def cutPrefixesRow : OpenClaim := { program := "ytfklpkgdobdbpaagreat", sum := "63287712cd7d349e042c582e23dcf750cb517bfeb8c14621fb751af5e9edcfc8", func := "draghead/dragheadlaw07.CutPrefixes", spec := "cutPrefixes", inPlace := ["math.sqrt"], unfollowed := true, recurses := true, apart := false }
def CutPrefixesSaid : Prop := cutPrefixesRow.holds Tryz.pinned (OpenSpec.ofChange cutPrefixesSpec)

/-- ITS FALSE NEIGHBOUR: 'it returns false'. Refute it at one input. -/
def cutPrefixesWrong : ChangeSpec := { name := "cutPrefixes", fn := fun _ => fun
  | [d1, d2, d3] => { results := [.lit (.bool false)], args := [d1, d2, d3] }
  | _ => none }
def CutPrefixesWrongFalsely : Prop := cutPrefixesRow.holds Tryz.pinned (OpenSpec.ofChange cutPrefixesWrong)

/-- 'dragheadlaw07.CutTimes': WHATEVER THE INPUT: true; the input reads as it did. -/
def cutTimesSpec : ChangeSpec := { name := "cutTimes", fn := fun _ => fun
  | [d1, d2, d3] => { results := [.lit (.bool true)], args := [d1, d2, d3] }
  | _ => none }
def cutTimesRow : OpenClaim := { program := "ytfklpkgdobdbpaagreat", sum := "63287712cd7d349e042c582e23dcf750cb517bfeb8c14621fb751af5e9edcfc8", func := "draghead/dragheadlaw07.CutTimes", spec := "cutTimes", inPlace := ["math.sqrt"], unfollowed := true, recurses := true, apart := false }
def CutTimesSaid : Prop := cutTimesRow.holds Tryz.pinned (OpenSpec.ofChange cutTimesSpec)

/-- ITS FALSE NEIGHBOUR: 'it returns false'. Refute it at one input. -/
def cutTimesWrong : ChangeSpec := { name := "cutTimes", fn := fun _ => fun
  | [d1, d2, d3] => { results := [.lit (.bool false)], args := [d1, d2, d3] }
  | _ => none }
def CutTimesWrongFalsely : Prop := cutTimesRow.holds Tryz.pinned (OpenSpec.ofChange cutTimesWrong)

/-- 'dragheadtop.TopDisjointCommute': WHATEVER THE INPUT: true; the input reads as it did. -/
def topDisjointCommuteSpec : ChangeSpec := { name := "topDisjointCommute", fn := fun _ => fun
  | [d1, d2, d3] => { results := [.lit (.bool true)], args := [d1, d2, d3] }
  | _ => none }
def topDisjointCommuteRow : OpenClaim := { program := "ytfklpkgdobdbpaagreat", sum := "63287712cd7d349e042c582e23dcf750cb517bfeb8c14621fb751af5e9edcfc8", func := "draghead/dragheadtop.TopDisjointCommute", spec := "topDisjointCommute", inPlace := ["math.sqrt"], unfollowed := true, recurses := true, apart := false }
def TopDisjointCommuteSaid : Prop := topDisjointCommuteRow.holds Tryz.pinned (OpenSpec.ofChange topDisjointCommuteSpec)

/-- ITS FALSE NEIGHBOUR: 'it returns false'. Refute it at one input. -/
def topDisjointCommuteWrong : ChangeSpec := { name := "topDisjointCommute", fn := fun _ => fun
  | [d1, d2, d3] => { results := [.lit (.bool false)], args := [d1, d2, d3] }
  | _ => none }
def TopDisjointCommuteWrongFalsely : Prop := topDisjointCommuteRow.holds Tryz.pinned (OpenSpec.ofChange topDisjointCommuteWrong)

/-- 'dragheadtop.TopGreatestCut': WHATEVER THE INPUT: true; the input reads as it did. -/
def topGreatestCutSpec : ChangeSpec := { name := "topGreatestCut", fn := fun _ => fun
  | [d1, d2] => { results := [.lit (.bool true)], args := [d1, d2] }
  | _ => none }
def topGreatestCutRow : OpenClaim := { program := "ytfklpkgdobdbpaagreat", sum := "63287712cd7d349e042c582e23dcf750cb517bfeb8c14621fb751af5e9edcfc8", func := "draghead/dragheadtop.TopGreatestCut", spec := "topGreatestCut", inPlace := ["math.sqrt"], unfollowed := true, recurses := true, apart := false }
def TopGreatestCutSaid : Prop := topGreatestCutRow.holds Tryz.pinned (OpenSpec.ofChange topGreatestCutSpec)

/-- ITS FALSE NEIGHBOUR: 'it returns false'. Refute it at one input. -/
def topGreatestCutWrong : ChangeSpec := { name := "topGreatestCut", fn := fun _ => fun
  | [d1, d2] => { results := [.lit (.bool false)], args := [d1, d2] }
  | _ => none }
def TopGreatestCutWrongFalsely : Prop := topGreatestCutRow.holds Tryz.pinned (OpenSpec.ofChange topGreatestCutWrong)

/-- 'dragheadtop.TopOrderOrProof': WHATEVER THE INPUT: true; the input reads as it did. -/
def topOrderOrProofSpec : ChangeSpec := { name := "topOrderOrProof", fn := fun _ => fun
  | [d1, d2, d3] => { results := [.lit (.bool true)], args := [d1, d2, d3] }
  | _ => none }
def topOrderOrProofRow : OpenClaim := { program := "ytfklpkgdobdbpaagreat", sum := "63287712cd7d349e042c582e23dcf750cb517bfeb8c14621fb751af5e9edcfc8", func := "draghead/dragheadtop.TopOrderOrProof", spec := "topOrderOrProof", inPlace := ["math.sqrt"], unfollowed := true, recurses := true, apart := false }
def TopOrderOrProofSaid : Prop := topOrderOrProofRow.holds Tryz.pinned (OpenSpec.ofChange topOrderOrProofSpec)

/-- ITS FALSE NEIGHBOUR: 'it returns false'. Refute it at one input. -/
def topOrderOrProofWrong : ChangeSpec := { name := "topOrderOrProof", fn := fun _ => fun
  | [d1, d2, d3] => { results := [.lit (.bool false)], args := [d1, d2, d3] }
  | _ => none }
def TopOrderOrProofWrongFalsely : Prop := topOrderOrProofRow.holds Tryz.pinned (OpenSpec.ofChange topOrderOrProofWrong)

/- THE SECOND FORM. 'bulk': how many values and letters a reading holds, each counted each time it is reached (what is shared counts as often as it is met; a slice's spare places count too). A statement '..UptoSaid' is the law's where the arguments, and the package variables that the reading takes, are together of bulk at most 1048576: NARROWER than '..Said'. Prove '..Said' where nothing that the law and all that it calls make is longer than what came in: it says more and counts as full. Else prove '..UptoSaid'. A law counts once. -/
mutual
def uptoBulk {H : Type} : DataW H → Nat
  | .lit (.string bytes) => bytes.length + 1
  | .lit _ => 1
  | .nil => 1
  | .ptr d => uptoBulk d + 1
  | .slice elems spare => uptoBulkAll elems + uptoBulkAll spare + 1
  | .agg parts => uptoBulkAll parts + 1
  | .iface _ d => uptoBulk d + 1
  | .map entries => uptoBulkEntries entries + 1
  | .held _ => 1
def uptoBulkAll {H : Type} : List (DataW H) → Nat
  | [] => 0
  | d :: r => uptoBulk d + uptoBulkAll r
def uptoBulkEntries {H : Type} : List (Lit × DataW H) → Nat
  | [] => 0
  | x :: r => uptoBulkEntry x + uptoBulkEntries r
def uptoBulkEntry {H : Type} : Lit × DataW H → Nat
  | (.string bytes, d) => bytes.length + uptoBulk d + 1
  | (_, d) => uptoBulk d + 1
 end
def uptoSmall : (H : Type) → List (DataW H) → Bool := fun _ ds => decide (uptoBulkAll ds ≤ 1048576)
def OpenSpec.upto (s : _root_.Go.ChangeSpec) : _root_.Go.OpenSpec := { _root_.Go.OpenSpec.ofChange s with cond := some uptoSmall }

/-- 'dragheadlaw07.CutSites', WHERE WHAT IT READS IS OF BULK AT MOST 1048576: true; the input reads as it did. -/
def cutSitesUptoRow : OpenClaim := { program := "ytfklpkgdobdbpaagreat", sum := "63287712cd7d349e042c582e23dcf750cb517bfeb8c14621fb751af5e9edcfc8", func := "draghead/dragheadlaw07.CutSites", spec := "cutSites", inPlace := ["math.sqrt"], unfollowed := true, recurses := true, apart := false, narrowed := true }
def CutSitesUptoSaid : Prop := cutSitesUptoRow.holds Tryz.pinned (OpenSpec.upto cutSitesSpec)

/-- 'dragheadlaw07.CutRefusals', WHERE WHAT IT READS IS OF BULK AT MOST 1048576: true; the input reads as it did. -/
def cutRefusalsUptoRow : OpenClaim := { program := "ytfklpkgdobdbpaagreat", sum := "63287712cd7d349e042c582e23dcf750cb517bfeb8c14621fb751af5e9edcfc8", func := "draghead/dragheadlaw07.CutRefusals", spec := "cutRefusals", inPlace := ["math.sqrt"], unfollowed := true, recurses := true, apart := false, narrowed := true }
def CutRefusalsUptoSaid : Prop := cutRefusalsUptoRow.holds Tryz.pinned (OpenSpec.upto cutRefusalsSpec)

/-- 'dragheadlaw07.CutDeeper', WHERE WHAT IT READS IS OF BULK AT MOST 1048576: true; the input reads as it did. -/
def cutDeeperUptoRow : OpenClaim := { program := "ytfklpkgdobdbpaagreat", sum := "63287712cd7d349e042c582e23dcf750cb517bfeb8c14621fb751af5e9edcfc8", func := "draghead/dragheadlaw07.CutDeeper", spec := "cutDeeper", inPlace := ["math.sqrt"], unfollowed := true, recurses := true, apart := false, narrowed := true }
def CutDeeperUptoSaid : Prop := cutDeeperUptoRow.holds Tryz.pinned (OpenSpec.upto cutDeeperSpec)

/-- 'dragheadlaw07.CutCheapest', WHERE WHAT IT READS IS OF BULK AT MOST 1048576: true; the input reads as it did. -/
def cutCheapestUptoRow : OpenClaim := { program := "ytfklpkgdobdbpaagreat", sum := "63287712cd7d349e042c582e23dcf750cb517bfeb8c14621fb751af5e9edcfc8", func := "draghead/dragheadlaw07.CutCheapest", spec := "cutCheapest", inPlace := ["math.sqrt"], unfollowed := true, recurses := true, apart := false, narrowed := true }
def CutCheapestUptoSaid : Prop := cutCheapestUptoRow.holds Tryz.pinned (OpenSpec.upto cutCheapestSpec)

/-- 'dragheadlaw07.CutSums', WHERE WHAT IT READS IS OF BULK AT MOST 1048576: true; the input reads as it did. -/
def cutSumsUptoRow : OpenClaim := { program := "ytfklpkgdobdbpaagreat", sum := "63287712cd7d349e042c582e23dcf750cb517bfeb8c14621fb751af5e9edcfc8", func := "draghead/dragheadlaw07.CutSums", spec := "cutSums", inPlace := ["math.sqrt"], unfollowed := true, recurses := true, apart := false, narrowed := true }
def CutSumsUptoSaid : Prop := cutSumsUptoRow.holds Tryz.pinned (OpenSpec.upto cutSumsSpec)

/-- 'dragheadlaw07.CutCuts', WHERE WHAT IT READS IS OF BULK AT MOST 1048576: true; the input reads as it did. -/
def cutCutsUptoRow : OpenClaim := { program := "ytfklpkgdobdbpaagreat", sum := "63287712cd7d349e042c582e23dcf750cb517bfeb8c14621fb751af5e9edcfc8", func := "draghead/dragheadlaw07.CutCuts", spec := "cutCuts", inPlace := ["math.sqrt"], unfollowed := true, recurses := true, apart := false, narrowed := true }
def CutCutsUptoSaid : Prop := cutCutsUptoRow.holds Tryz.pinned (OpenSpec.upto cutCutsSpec)

/-- 'dragheadlaw07.CutOrders', WHERE WHAT IT READS IS OF BULK AT MOST 1048576: true; the input reads as it did. -/
def cutOrdersUptoRow : OpenClaim := { program := "ytfklpkgdobdbpaagreat", sum := "63287712cd7d349e042c582e23dcf750cb517bfeb8c14621fb751af5e9edcfc8", func := "draghead/dragheadlaw07.CutOrders", spec := "cutOrders", inPlace := ["math.sqrt"], unfollowed := true, recurses := true, apart := false, narrowed := true }
def CutOrdersUptoSaid : Prop := cutOrdersUptoRow.holds Tryz.pinned (OpenSpec.upto cutOrdersSpec)

/-- 'dragheadlaw07.CutProofs', WHERE WHAT IT READS IS OF BULK AT MOST 1048576: true; the input reads as it did. -/
def cutProofsUptoRow : OpenClaim := { program := "ytfklpkgdobdbpaagreat", sum := "63287712cd7d349e042c582e23dcf750cb517bfeb8c14621fb751af5e9edcfc8", func := "draghead/dragheadlaw07.CutProofs", spec := "cutProofs", inPlace := ["math.sqrt"], unfollowed := true, recurses := true, apart := false, narrowed := true }
def CutProofsUptoSaid : Prop := cutProofsUptoRow.holds Tryz.pinned (OpenSpec.upto cutProofsSpec)

/-- 'dragheadlaw07.CutKept', WHERE WHAT IT READS IS OF BULK AT MOST 1048576: true; the input reads as it did. -/
def cutKeptUptoRow : OpenClaim := { program := "ytfklpkgdobdbpaagreat", sum := "63287712cd7d349e042c582e23dcf750cb517bfeb8c14621fb751af5e9edcfc8", func := "draghead/dragheadlaw07.CutKept", spec := "cutKept", inPlace := ["math.sqrt"], unfollowed := true, recurses := true, apart := false, narrowed := true }
def CutKeptUptoSaid : Prop := cutKeptUptoRow.holds Tryz.pinned (OpenSpec.upto cutKeptSpec)

/-- 'dragheadlaw07.CutCells', WHERE WHAT IT READS IS OF BULK AT MOST 1048576: true; the input reads as it did. -/
def cutCellsUptoRow : OpenClaim := { program := "ytfklpkgdobdbpaagreat", sum := "63287712cd7d349e042c582e23dcf750cb517bfeb8c14621fb751af5e9edcfc8", func := "draghead/dragheadlaw07.CutCells", spec := "cutCells", inPlace := ["math.sqrt"], unfollowed := true, recurses := true, apart := false, narrowed := true }
def CutCellsUptoSaid : Prop := cutCellsUptoRow.holds Tryz.pinned (OpenSpec.upto cutCellsSpec)

/-- 'dragheadlaw07.CutPlans', WHERE WHAT IT READS IS OF BULK AT MOST 1048576: true; the input reads as it did. -/
def cutPlansUptoRow : OpenClaim := { program := "ytfklpkgdobdbpaagreat", sum := "63287712cd7d349e042c582e23dcf750cb517bfeb8c14621fb751af5e9edcfc8", func := "draghead/dragheadlaw07.CutPlans", spec := "cutPlans", inPlace := ["math.sqrt"], unfollowed := true, recurses := true, apart := false, narrowed := true }
def CutPlansUptoSaid : Prop := cutPlansUptoRow.holds Tryz.pinned (OpenSpec.upto cutPlansSpec)

/-- 'dragheadlaw07.CutPrefixes', WHERE WHAT IT READS IS OF BULK AT MOST 1048576: true; the input reads as it did. -/
def cutPrefixesUptoRow : OpenClaim := { program := "ytfklpkgdobdbpaagreat", sum := "63287712cd7d349e042c582e23dcf750cb517bfeb8c14621fb751af5e9edcfc8", func := "draghead/dragheadlaw07.CutPrefixes", spec := "cutPrefixes", inPlace := ["math.sqrt"], unfollowed := true, recurses := true, apart := false, narrowed := true }
def CutPrefixesUptoSaid : Prop := cutPrefixesUptoRow.holds Tryz.pinned (OpenSpec.upto cutPrefixesSpec)

/-- 'dragheadlaw07.CutTimes', WHERE WHAT IT READS IS OF BULK AT MOST 1048576: true; the input reads as it did. -/
def cutTimesUptoRow : OpenClaim := { program := "ytfklpkgdobdbpaagreat", sum := "63287712cd7d349e042c582e23dcf750cb517bfeb8c14621fb751af5e9edcfc8", func := "draghead/dragheadlaw07.CutTimes", spec := "cutTimes", inPlace := ["math.sqrt"], unfollowed := true, recurses := true, apart := false, narrowed := true }
def CutTimesUptoSaid : Prop := cutTimesUptoRow.holds Tryz.pinned (OpenSpec.upto cutTimesSpec)

/-- 'dragheadtop.TopDisjointCommute', WHERE WHAT IT READS IS OF BULK AT MOST 1048576: true; the input reads as it did. -/
def topDisjointCommuteUptoRow : OpenClaim := { program := "ytfklpkgdobdbpaagreat", sum := "63287712cd7d349e042c582e23dcf750cb517bfeb8c14621fb751af5e9edcfc8", func := "draghead/dragheadtop.TopDisjointCommute", spec := "topDisjointCommute", inPlace := ["math.sqrt"], unfollowed := true, recurses := true, apart := false, narrowed := true }
def TopDisjointCommuteUptoSaid : Prop := topDisjointCommuteUptoRow.holds Tryz.pinned (OpenSpec.upto topDisjointCommuteSpec)

/-- 'dragheadtop.TopGreatestCut', WHERE WHAT IT READS IS OF BULK AT MOST 1048576: true; the input reads as it did. -/
def topGreatestCutUptoRow : OpenClaim := { program := "ytfklpkgdobdbpaagreat", sum := "63287712cd7d349e042c582e23dcf750cb517bfeb8c14621fb751af5e9edcfc8", func := "draghead/dragheadtop.TopGreatestCut", spec := "topGreatestCut", inPlace := ["math.sqrt"], unfollowed := true, recurses := true, apart := false, narrowed := true }
def TopGreatestCutUptoSaid : Prop := topGreatestCutUptoRow.holds Tryz.pinned (OpenSpec.upto topGreatestCutSpec)

/-- 'dragheadtop.TopOrderOrProof', WHERE WHAT IT READS IS OF BULK AT MOST 1048576: true; the input reads as it did. -/
def topOrderOrProofUptoRow : OpenClaim := { program := "ytfklpkgdobdbpaagreat", sum := "63287712cd7d349e042c582e23dcf750cb517bfeb8c14621fb751af5e9edcfc8", func := "draghead/dragheadtop.TopOrderOrProof", spec := "topOrderOrProof", inPlace := ["math.sqrt"], unfollowed := true, recurses := true, apart := false, narrowed := true }
def TopOrderOrProofUptoSaid : Prop := topOrderOrProofUptoRow.holds Tryz.pinned (OpenSpec.upto topOrderOrProofSpec)

end Rows
end Go.Proofs.YtfklpkgdobdbpaaGreat
