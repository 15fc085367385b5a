/-
  No cell of these rows narrows 'for every input' (looked for: loops, veiled, ifaces, maps, wideKeys, modest, calm, conditions, laid).
  DERIVED. THE GIVEN ROWS OF THIS SEAT. 12 by the template 'for every input the law returns true; each argument reads behind the call as it read before'; 0 by the template 'total and deterministic' (their statements: YtmkhmonbfikbpaaTotals.lean).
  GIVEN WITH THE SEED: the statements are not yours to turn. If you find one false, say at which input.
  Laid BY PROGRAM, IN A SANDBOX (cutbox-rows.mjs): the forced cells as the released guide's own fill.sh prints them over the translation d8234afb4e83c671… (all of the seat's roots in one cut). By AI agents, Wed Nov 11 2026. No macro, syntax, notation, axiom, sorry.
-/
import Derived.Test.YtmkhmonbfikbpaaChecked
import GoSem.Claim
import GoSem.ClaimJoined
import GoSem.ClaimMapViews
import Derived.JoinedTies
import Derived.KernelRfl
namespace Go.Proofs.Ytmkhmonbfikbpaa
/- THE CELL 'sum', in the pinned program and in every row, IS THE sha256 OF THE DUMP (.gsa) THAT YtmkhmonbfikbpaaProg.lean LOADS. Nothing in Lean hashes anything: it is a label: what it is worth is what the hold of that sum in a sandbox is worth. -/
noncomputable def Try.pinned : Pinned := { name := "ytmkhmonbfikbpaa", sum := "d8234afb4e83c67174e9e43ca1460d08afaab8b77feac44efdc4f15f5fd8c8d5", checked := Try.checked }
namespace Rows
def none {H : Type} : Left H := { results := [], args := [] }

/-- 'minecontrollaw01.PlanChecks': WHATEVER THE INPUT: true; the input reads as it did. -/
def planChecksSpec : ChangeSpec := { name := "planChecks", fn := fun _ => fun
  | [d1, d2, d3, d4] => { results := [.lit (.bool true)], args := [d1, d2, d3, d4] }
  | _ => none }
def planChecksRow : OpenClaim := { program := "ytmkhmonbfikbpaa", sum := "d8234afb4e83c67174e9e43ca1460d08afaab8b77feac44efdc4f15f5fd8c8d5", func := "minecontrol/minecontrollaw01.PlanChecks", spec := "planChecks", apart := false }
def PlanChecksSaid : Prop := planChecksRow.holds Try.pinned (OpenSpec.ofChange planChecksSpec)

/-- ITS FALSE NEIGHBOUR: 'it returns false'. Refute it at one input. -/
def planChecksWrong : ChangeSpec := { name := "planChecks", fn := fun _ => fun
  | [d1, d2, d3, d4] => { results := [.lit (.bool false)], args := [d1, d2, d3, d4] }
  | _ => none }
def PlanChecksWrongFalsely : Prop := planChecksRow.holds Try.pinned (OpenSpec.ofChange planChecksWrong)

/-- 'minecontrollaw01.PlanOrders': WHATEVER THE INPUT: true; the input reads as it did. -/
def planOrdersSpec : ChangeSpec := { name := "planOrders", fn := fun _ => fun
  | [d1, d2, d3] => { results := [.lit (.bool true)], args := [d1, d2, d3] }
  | _ => none }
def planOrdersRow : OpenClaim := { program := "ytmkhmonbfikbpaa", sum := "d8234afb4e83c67174e9e43ca1460d08afaab8b77feac44efdc4f15f5fd8c8d5", func := "minecontrol/minecontrollaw01.PlanOrders", spec := "planOrders", apart := false }
def PlanOrdersSaid : Prop := planOrdersRow.holds Try.pinned (OpenSpec.ofChange planOrdersSpec)

/-- ITS FALSE NEIGHBOUR: 'it returns false'. Refute it at one input. -/
def planOrdersWrong : ChangeSpec := { name := "planOrders", fn := fun _ => fun
  | [d1, d2, d3] => { results := [.lit (.bool false)], args := [d1, d2, d3] }
  | _ => none }
def PlanOrdersWrongFalsely : Prop := planOrdersRow.holds Try.pinned (OpenSpec.ofChange planOrdersWrong)

/-- 'minecontrollaw01.PlanApplies': WHATEVER THE INPUT: true; the input reads as it did. -/
def planAppliesSpec : ChangeSpec := { name := "planApplies", fn := fun _ => fun
  | [d1, d2] => { results := [.lit (.bool true)], args := [d1, d2] }
  | _ => none }
def planAppliesRow : OpenClaim := { program := "ytmkhmonbfikbpaa", sum := "d8234afb4e83c67174e9e43ca1460d08afaab8b77feac44efdc4f15f5fd8c8d5", func := "minecontrol/minecontrollaw01.PlanApplies", spec := "planApplies", apart := false }
def PlanAppliesSaid : Prop := planAppliesRow.holds Try.pinned (OpenSpec.ofChange planAppliesSpec)

/-- ITS FALSE NEIGHBOUR: 'it returns false'. Refute it at one input. -/
def planAppliesWrong : ChangeSpec := { name := "planApplies", fn := fun _ => fun
  | [d1, d2] => { results := [.lit (.bool false)], args := [d1, d2] }
  | _ => none }
def PlanAppliesWrongFalsely : Prop := planAppliesRow.holds Try.pinned (OpenSpec.ofChange planAppliesWrong)

/-- 'minecontrollaw01.PlanBack': WHATEVER THE INPUT: true; the input reads as it did. -/
def planBackSpec : ChangeSpec := { name := "planBack", fn := fun _ => fun
  | [d1, d2] => { results := [.lit (.bool true)], args := [d1, d2] }
  | _ => none }
def planBackRow : OpenClaim := { program := "ytmkhmonbfikbpaa", sum := "d8234afb4e83c67174e9e43ca1460d08afaab8b77feac44efdc4f15f5fd8c8d5", func := "minecontrol/minecontrollaw01.PlanBack", spec := "planBack", apart := false }
def PlanBackSaid : Prop := planBackRow.holds Try.pinned (OpenSpec.ofChange planBackSpec)

/-- ITS FALSE NEIGHBOUR: 'it returns false'. Refute it at one input. -/
def planBackWrong : ChangeSpec := { name := "planBack", fn := fun _ => fun
  | [d1, d2] => { results := [.lit (.bool false)], args := [d1, d2] }
  | _ => none }
def PlanBackWrongFalsely : Prop := planBackRow.holds Try.pinned (OpenSpec.ofChange planBackWrong)

/-- 'minecontrollaw01.PlanParts': WHATEVER THE INPUT: true; the input reads as it did. -/
def planPartsSpec : ChangeSpec := { name := "planParts", fn := fun _ => fun
  | [d] => { results := [.lit (.bool true)], args := [d] }
  | _ => none }
def planPartsRow : OpenClaim := { program := "ytmkhmonbfikbpaa", sum := "d8234afb4e83c67174e9e43ca1460d08afaab8b77feac44efdc4f15f5fd8c8d5", func := "minecontrol/minecontrollaw01.PlanParts", spec := "planParts", apart := false }
def PlanPartsSaid : Prop := planPartsRow.holds Try.pinned (OpenSpec.ofChange planPartsSpec)

/-- ITS FALSE NEIGHBOUR: 'it returns false'. Refute it at one input. -/
def planPartsWrong : ChangeSpec := { name := "planParts", fn := fun _ => fun
  | [d] => { results := [.lit (.bool false)], args := [d] }
  | _ => none }
def PlanPartsWrongFalsely : Prop := planPartsRow.holds Try.pinned (OpenSpec.ofChange planPartsWrong)

/-- 'minecontrollaw01.PlanLooks': WHATEVER THE INPUT: true; the input reads as it did. -/
def planLooksSpec : ChangeSpec := { name := "planLooks", fn := fun _ => fun
  | [d1, d2, d3, d4] => { results := [.lit (.bool true)], args := [d1, d2, d3, d4] }
  | _ => none }
def planLooksRow : OpenClaim := { program := "ytmkhmonbfikbpaa", sum := "d8234afb4e83c67174e9e43ca1460d08afaab8b77feac44efdc4f15f5fd8c8d5", func := "minecontrol/minecontrollaw01.PlanLooks", spec := "planLooks", apart := false }
def PlanLooksSaid : Prop := planLooksRow.holds Try.pinned (OpenSpec.ofChange planLooksSpec)

/-- ITS FALSE NEIGHBOUR: 'it returns false'. Refute it at one input. -/
def planLooksWrong : ChangeSpec := { name := "planLooks", fn := fun _ => fun
  | [d1, d2, d3, d4] => { results := [.lit (.bool false)], args := [d1, d2, d3, d4] }
  | _ => none }
def PlanLooksWrongFalsely : Prop := planLooksRow.holds Try.pinned (OpenSpec.ofChange planLooksWrong)

/-- 'minecontrollaw03.WalkTimes': WHATEVER THE INPUT: true; the input reads as it did. -/
def walkTimesSpec : ChangeSpec := { name := "walkTimes", fn := fun _ => fun
  | [d1, d2, d3] => { results := [.lit (.bool true)], args := [d1, d2, d3] }
  | _ => none }
def walkTimesRow : OpenClaim := { program := "ytmkhmonbfikbpaa", sum := "d8234afb4e83c67174e9e43ca1460d08afaab8b77feac44efdc4f15f5fd8c8d5", func := "minecontrol/minecontrollaw03.WalkTimes", spec := "walkTimes", unfollowed := true, recurses := true, apart := false }
def WalkTimesSaid : Prop := walkTimesRow.holds Try.pinned (OpenSpec.ofChange walkTimesSpec)

/-- ITS FALSE NEIGHBOUR: 'it returns false'. Refute it at one input. -/
def walkTimesWrong : ChangeSpec := { name := "walkTimes", fn := fun _ => fun
  | [d1, d2, d3] => { results := [.lit (.bool false)], args := [d1, d2, d3] }
  | _ => none }
def WalkTimesWrongFalsely : Prop := walkTimesRow.holds Try.pinned (OpenSpec.ofChange walkTimesWrong)

/-- 'minecontrollaw03.WalkWays': WHATEVER THE INPUT: true; the input reads as it did. -/
def walkWaysSpec : ChangeSpec := { name := "walkWays", fn := fun _ => fun
  | [d1, d2, d3] => { results := [.lit (.bool true)], args := [d1, d2, d3] }
  | _ => none }
def walkWaysRow : OpenClaim := { program := "ytmkhmonbfikbpaa", sum := "d8234afb4e83c67174e9e43ca1460d08afaab8b77feac44efdc4f15f5fd8c8d5", func := "minecontrol/minecontrollaw03.WalkWays", spec := "walkWays", unfollowed := true, recurses := true, apart := false }
def WalkWaysSaid : Prop := walkWaysRow.holds Try.pinned (OpenSpec.ofChange walkWaysSpec)

/-- ITS FALSE NEIGHBOUR: 'it returns false'. Refute it at one input. -/
def walkWaysWrong : ChangeSpec := { name := "walkWays", fn := fun _ => fun
  | [d1, d2, d3] => { results := [.lit (.bool false)], args := [d1, d2, d3] }
  | _ => none }
def WalkWaysWrongFalsely : Prop := walkWaysRow.holds Try.pinned (OpenSpec.ofChange walkWaysWrong)

/-- 'minecontrollaw03.WalkSums': WHATEVER THE INPUT: true; the input reads as it did. -/
def walkSumsSpec : ChangeSpec := { name := "walkSums", fn := fun _ => fun
  | [d1, d2, d3] => { results := [.lit (.bool true)], args := [d1, d2, d3] }
  | _ => none }
def walkSumsRow : OpenClaim := { program := "ytmkhmonbfikbpaa", sum := "d8234afb4e83c67174e9e43ca1460d08afaab8b77feac44efdc4f15f5fd8c8d5", func := "minecontrol/minecontrollaw03.WalkSums", spec := "walkSums", unfollowed := true, recurses := true, apart := false }
def WalkSumsSaid : Prop := walkSumsRow.holds Try.pinned (OpenSpec.ofChange walkSumsSpec)

/-- ITS FALSE NEIGHBOUR: 'it returns false'. Refute it at one input. -/
def walkSumsWrong : ChangeSpec := { name := "walkSums", fn := fun _ => fun
  | [d1, d2, d3] => { results := [.lit (.bool false)], args := [d1, d2, d3] }
  | _ => none }
def WalkSumsWrongFalsely : Prop := walkSumsRow.holds Try.pinned (OpenSpec.ofChange walkSumsWrong)

/-- 'minecontrollaw03.WalkCloses': WHATEVER THE INPUT: true; the input reads as it did. -/
def walkClosesSpec : ChangeSpec := { name := "walkCloses", fn := fun _ => fun
  | [d1, d2, d3] => { results := [.lit (.bool true)], args := [d1, d2, d3] }
  | _ => none }
def walkClosesRow : OpenClaim := { program := "ytmkhmonbfikbpaa", sum := "d8234afb4e83c67174e9e43ca1460d08afaab8b77feac44efdc4f15f5fd8c8d5", func := "minecontrol/minecontrollaw03.WalkCloses", spec := "walkCloses", unfollowed := true, recurses := true, apart := false }
def WalkClosesSaid : Prop := walkClosesRow.holds Try.pinned (OpenSpec.ofChange walkClosesSpec)

/-- ITS FALSE NEIGHBOUR: 'it returns false'. Refute it at one input. -/
def walkClosesWrong : ChangeSpec := { name := "walkCloses", fn := fun _ => fun
  | [d1, d2, d3] => { results := [.lit (.bool false)], args := [d1, d2, d3] }
  | _ => none }
def WalkClosesWrongFalsely : Prop := walkClosesRow.holds Try.pinned (OpenSpec.ofChange walkClosesWrong)

/-- 'minecontrollaw03.WalkThrough': WHATEVER THE INPUT: true; the input reads as it did. -/
def walkThroughSpec : ChangeSpec := { name := "walkThrough", fn := fun _ => fun
  | [d1, d2, d3, d4, d5, d6] => { results := [.lit (.bool true)], args := [d1, d2, d3, d4, d5, d6] }
  | _ => none }
def walkThroughRow : OpenClaim := { program := "ytmkhmonbfikbpaa", sum := "d8234afb4e83c67174e9e43ca1460d08afaab8b77feac44efdc4f15f5fd8c8d5", func := "minecontrol/minecontrollaw03.WalkThrough", spec := "walkThrough", unfollowed := true, recurses := true, apart := false }
def WalkThroughSaid : Prop := walkThroughRow.holds Try.pinned (OpenSpec.ofChange walkThroughSpec)

/-- ITS FALSE NEIGHBOUR: 'it returns false'. Refute it at one input. -/
def walkThroughWrong : ChangeSpec := { name := "walkThrough", fn := fun _ => fun
  | [d1, d2, d3, d4, d5, d6] => { results := [.lit (.bool false)], args := [d1, d2, d3, d4, d5, d6] }
  | _ => none }
def WalkThroughWrongFalsely : Prop := walkThroughRow.holds Try.pinned (OpenSpec.ofChange walkThroughWrong)

/-- 'minecontrollaw03.WalkLeast': WHATEVER THE INPUT: true; the input reads as it did. -/
def walkLeastSpec : ChangeSpec := { name := "walkLeast", fn := fun _ => fun
  | [d1, d2, d3] => { results := [.lit (.bool true)], args := [d1, d2, d3] }
  | _ => none }
def walkLeastRow : OpenClaim := { program := "ytmkhmonbfikbpaa", sum := "d8234afb4e83c67174e9e43ca1460d08afaab8b77feac44efdc4f15f5fd8c8d5", func := "minecontrol/minecontrollaw03.WalkLeast", spec := "walkLeast", unfollowed := true, recurses := true, apart := false }
def WalkLeastSaid : Prop := walkLeastRow.holds Try.pinned (OpenSpec.ofChange walkLeastSpec)

/-- ITS FALSE NEIGHBOUR: 'it returns false'. Refute it at one input. -/
def walkLeastWrong : ChangeSpec := { name := "walkLeast", fn := fun _ => fun
  | [d1, d2, d3] => { results := [.lit (.bool false)], args := [d1, d2, d3] }
  | _ => none }
def WalkLeastWrongFalsely : Prop := walkLeastRow.holds Try.pinned (OpenSpec.ofChange walkLeastWrong)

/- THE SECOND FORM. 'bulk': how many values and letters a reading holds, each counted each time it is reached (what is shared counts as often as it is met; a slice's spare places count too). A statement '..UptoSaid' is the law's where the arguments, and the package variables that the reading takes, are together of bulk at most 1048576: NARROWER than '..Said'. Prove '..Said' where nothing that the law and all that it calls make is longer than what came in: it says more and counts as full. Else prove '..UptoSaid'. A law counts once. -/
mutual
def uptoBulk {H : Type} : DataW H → Nat
  | .lit (.string bytes) => bytes.length + 1
  | .lit _ => 1
  | .nil => 1
  | .ptr d => uptoBulk d + 1
  | .slice elems spare => uptoBulkAll elems + uptoBulkAll spare + 1
  | .agg parts => uptoBulkAll parts + 1
  | .iface _ d => uptoBulk d + 1
  | .map entries => uptoBulkEntries entries + 1
  | .held _ => 1
def uptoBulkAll {H : Type} : List (DataW H) → Nat
  | [] => 0
  | d :: r => uptoBulk d + uptoBulkAll r
def uptoBulkEntries {H : Type} : List (Lit × DataW H) → Nat
  | [] => 0
  | x :: r => uptoBulkEntry x + uptoBulkEntries r
def uptoBulkEntry {H : Type} : Lit × DataW H → Nat
  | (.string bytes, d) => bytes.length + uptoBulk d + 1
  | (_, d) => uptoBulk d + 1
 end
def uptoSmall : (H : Type) → List (DataW H) → Bool := fun _ ds => decide (uptoBulkAll ds ≤ 1048576)
def OpenSpec.upto (s : _root_.Go.ChangeSpec) : _root_.Go.OpenSpec := { _root_.Go.OpenSpec.ofChange s with cond := some uptoSmall }

/-- 'minecontrollaw01.PlanChecks', WHERE WHAT IT READS IS OF BULK AT MOST 1048576: true; the input reads as it did. -/
def planChecksUptoRow : OpenClaim := { program := "ytmkhmonbfikbpaa", sum := "d8234afb4e83c67174e9e43ca1460d08afaab8b77feac44efdc4f15f5fd8c8d5", func := "minecontrol/minecontrollaw01.PlanChecks", spec := "planChecks", apart := false, narrowed := true }
def PlanChecksUptoSaid : Prop := planChecksUptoRow.holds Try.pinned (OpenSpec.upto planChecksSpec)

/-- 'minecontrollaw01.PlanOrders', WHERE WHAT IT READS IS OF BULK AT MOST 1048576: true; the input reads as it did. -/
def planOrdersUptoRow : OpenClaim := { program := "ytmkhmonbfikbpaa", sum := "d8234afb4e83c67174e9e43ca1460d08afaab8b77feac44efdc4f15f5fd8c8d5", func := "minecontrol/minecontrollaw01.PlanOrders", spec := "planOrders", apart := false, narrowed := true }
def PlanOrdersUptoSaid : Prop := planOrdersUptoRow.holds Try.pinned (OpenSpec.upto planOrdersSpec)

/-- 'minecontrollaw01.PlanApplies', WHERE WHAT IT READS IS OF BULK AT MOST 1048576: true; the input reads as it did. -/
def planAppliesUptoRow : OpenClaim := { program := "ytmkhmonbfikbpaa", sum := "d8234afb4e83c67174e9e43ca1460d08afaab8b77feac44efdc4f15f5fd8c8d5", func := "minecontrol/minecontrollaw01.PlanApplies", spec := "planApplies", apart := false, narrowed := true }
def PlanAppliesUptoSaid : Prop := planAppliesUptoRow.holds Try.pinned (OpenSpec.upto planAppliesSpec)

/-- 'minecontrollaw01.PlanBack', WHERE WHAT IT READS IS OF BULK AT MOST 1048576: true; the input reads as it did. -/
def planBackUptoRow : OpenClaim := { program := "ytmkhmonbfikbpaa", sum := "d8234afb4e83c67174e9e43ca1460d08afaab8b77feac44efdc4f15f5fd8c8d5", func := "minecontrol/minecontrollaw01.PlanBack", spec := "planBack", apart := false, narrowed := true }
def PlanBackUptoSaid : Prop := planBackUptoRow.holds Try.pinned (OpenSpec.upto planBackSpec)

/-- 'minecontrollaw01.PlanParts', WHERE WHAT IT READS IS OF BULK AT MOST 1048576: true; the input reads as it did. -/
def planPartsUptoRow : OpenClaim := { program := "ytmkhmonbfikbpaa", sum := "d8234afb4e83c67174e9e43ca1460d08afaab8b77feac44efdc4f15f5fd8c8d5", func := "minecontrol/minecontrollaw01.PlanParts", spec := "planParts", apart := false, narrowed := true }
def PlanPartsUptoSaid : Prop := planPartsUptoRow.holds Try.pinned (OpenSpec.upto planPartsSpec)

/-- 'minecontrollaw01.PlanLooks', WHERE WHAT IT READS IS OF BULK AT MOST 1048576: true; the input reads as it did. -/
def planLooksUptoRow : OpenClaim := { program := "ytmkhmonbfikbpaa", sum := "d8234afb4e83c67174e9e43ca1460d08afaab8b77feac44efdc4f15f5fd8c8d5", func := "minecontrol/minecontrollaw01.PlanLooks", spec := "planLooks", apart := false, narrowed := true }
def PlanLooksUptoSaid : Prop := planLooksUptoRow.holds Try.pinned (OpenSpec.upto planLooksSpec)

/-- 'minecontrollaw03.WalkTimes', WHERE WHAT IT READS IS OF BULK AT MOST 1048576: true; the input reads as it did. -/
def walkTimesUptoRow : OpenClaim := { program := "ytmkhmonbfikbpaa", sum := "d8234afb4e83c67174e9e43ca1460d08afaab8b77feac44efdc4f15f5fd8c8d5", func := "minecontrol/minecontrollaw03.WalkTimes", spec := "walkTimes", unfollowed := true, recurses := true, apart := false, narrowed := true }
def WalkTimesUptoSaid : Prop := walkTimesUptoRow.holds Try.pinned (OpenSpec.upto walkTimesSpec)

/-- 'minecontrollaw03.WalkWays', WHERE WHAT IT READS IS OF BULK AT MOST 1048576: true; the input reads as it did. -/
def walkWaysUptoRow : OpenClaim := { program := "ytmkhmonbfikbpaa", sum := "d8234afb4e83c67174e9e43ca1460d08afaab8b77feac44efdc4f15f5fd8c8d5", func := "minecontrol/minecontrollaw03.WalkWays", spec := "walkWays", unfollowed := true, recurses := true, apart := false, narrowed := true }
def WalkWaysUptoSaid : Prop := walkWaysUptoRow.holds Try.pinned (OpenSpec.upto walkWaysSpec)

/-- 'minecontrollaw03.WalkSums', WHERE WHAT IT READS IS OF BULK AT MOST 1048576: true; the input reads as it did. -/
def walkSumsUptoRow : OpenClaim := { program := "ytmkhmonbfikbpaa", sum := "d8234afb4e83c67174e9e43ca1460d08afaab8b77feac44efdc4f15f5fd8c8d5", func := "minecontrol/minecontrollaw03.WalkSums", spec := "walkSums", unfollowed := true, recurses := true, apart := false, narrowed := true }
def WalkSumsUptoSaid : Prop := walkSumsUptoRow.holds Try.pinned (OpenSpec.upto walkSumsSpec)

/-- 'minecontrollaw03.WalkCloses', WHERE WHAT IT READS IS OF BULK AT MOST 1048576: true; the input reads as it did. -/
def walkClosesUptoRow : OpenClaim := { program := "ytmkhmonbfikbpaa", sum := "d8234afb4e83c67174e9e43ca1460d08afaab8b77feac44efdc4f15f5fd8c8d5", func := "minecontrol/minecontrollaw03.WalkCloses", spec := "walkCloses", unfollowed := true, recurses := true, apart := false, narrowed := true }
def WalkClosesUptoSaid : Prop := walkClosesUptoRow.holds Try.pinned (OpenSpec.upto walkClosesSpec)

/-- 'minecontrollaw03.WalkThrough', WHERE WHAT IT READS IS OF BULK AT MOST 1048576: true; the input reads as it did. -/
def walkThroughUptoRow : OpenClaim := { program := "ytmkhmonbfikbpaa", sum := "d8234afb4e83c67174e9e43ca1460d08afaab8b77feac44efdc4f15f5fd8c8d5", func := "minecontrol/minecontrollaw03.WalkThrough", spec := "walkThrough", unfollowed := true, recurses := true, apart := false, narrowed := true }
def WalkThroughUptoSaid : Prop := walkThroughUptoRow.holds Try.pinned (OpenSpec.upto walkThroughSpec)

/-- 'minecontrollaw03.WalkLeast', WHERE WHAT IT READS IS OF BULK AT MOST 1048576: true; the input reads as it did. -/
def walkLeastUptoRow : OpenClaim := { program := "ytmkhmonbfikbpaa", sum := "d8234afb4e83c67174e9e43ca1460d08afaab8b77feac44efdc4f15f5fd8c8d5", func := "minecontrol/minecontrollaw03.WalkLeast", spec := "walkLeast", unfollowed := true, recurses := true, apart := false, narrowed := true }
def WalkLeastUptoSaid : Prop := walkLeastUptoRow.holds Try.pinned (OpenSpec.upto walkLeastSpec)

end Rows
end Go.Proofs.Ytmkhmonbfikbpaa
