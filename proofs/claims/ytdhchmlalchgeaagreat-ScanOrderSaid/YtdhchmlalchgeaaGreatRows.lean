/-
  No cell of these rows narrows 'for every input' (looked for: loops, veiled, ifaces, maps, wideKeys, modest, calm, conditions, laid).
  DERIVED. THE GIVEN ROWS OF THIS SEAT. 12 by the template 'for every input the law returns true; each argument reads behind the call as it read before'; 0 by the template 'total and deterministic' (their statements: YtdhchmlalchgeaaGreatTotals.lean).
  GIVEN WITH THE SEED: the statements are not yours to turn. If you find one false, say at which input.
  Laid BY PROGRAM, IN A SANDBOX (cutbox-rows.mjs): the forced cells as the released guide's own fill.sh prints them over the translation 1b28eb5455630e2a… (all of the seat's roots in one cut). By AI agents, Wed Nov 11 2026. No macro, syntax, notation, axiom, sorry.
-/
import Derived.Test.YtdhchmlalchgeaaGreatChecked
import GoSem.Claim
import GoSem.ClaimJoined
import GoSem.ClaimMapViews
import Derived.JoinedTies
import Derived.KernelRfl
namespace Go.Proofs.YtdhchmlalchgeaaGreat
/- THE CELL 'sum', in the pinned program and in every row, IS THE sha256 OF THE DUMP (.gsa) THAT YtdhchmlalchgeaaGreatProg.lean LOADS. Nothing in Lean hashes anything: it is a label: what it is worth is what the hold of that sum in a sandbox is worth. -/
noncomputable def Tryz.pinned : Pinned := { name := "ytdhchmlalchgeaagreat", sum := "1b28eb5455630e2ad2d6eeb52bb23c6fe4d41edb2521e7154d0bba01719f2dd9", checked := Tryz.checked }
namespace Rows
def none {H : Type} : Left H := { results := [], args := [] }

/-- 'semispacelaw08.GraphReach': WHATEVER THE INPUT: true; the input reads as it did. -/
def graphReachSpec : ChangeSpec := { name := "graphReach", fn := fun _ => fun
  | [d] => { results := [.lit (.bool true)], args := [d] }
  | _ => none }
def graphReachRow : OpenClaim := { program := "ytdhchmlalchgeaagreat", sum := "1b28eb5455630e2ad2d6eeb52bb23c6fe4d41edb2521e7154d0bba01719f2dd9", func := "semispace/semispacelaw08.GraphReach", spec := "graphReach", unfollowed := true, recurses := true, apart := false }
def GraphReachSaid : Prop := graphReachRow.holds Tryz.pinned (OpenSpec.ofChange graphReachSpec)

/-- ITS FALSE NEIGHBOUR: 'it returns false'. Refute it at one input. -/
def graphReachWrong : ChangeSpec := { name := "graphReach", fn := fun _ => fun
  | [d] => { results := [.lit (.bool false)], args := [d] }
  | _ => none }
def GraphReachWrongFalsely : Prop := graphReachRow.holds Tryz.pinned (OpenSpec.ofChange graphReachWrong)

/-- 'semispacelaw08.GraphSame': WHATEVER THE INPUT: true; the input reads as it did. -/
def graphSameSpec : ChangeSpec := { name := "graphSame", fn := fun _ => fun
  | [d1, d2, d3, d4] => { results := [.lit (.bool true)], args := [d1, d2, d3, d4] }
  | _ => none }
def graphSameRow : OpenClaim := { program := "ytdhchmlalchgeaagreat", sum := "1b28eb5455630e2ad2d6eeb52bb23c6fe4d41edb2521e7154d0bba01719f2dd9", func := "semispace/semispacelaw08.GraphSame", spec := "graphSame", unfollowed := true, recurses := true, apart := false }
def GraphSameSaid : Prop := graphSameRow.holds Tryz.pinned (OpenSpec.ofChange graphSameSpec)

/-- ITS FALSE NEIGHBOUR: 'it returns false'. Refute it at one input. -/
def graphSameWrong : ChangeSpec := { name := "graphSame", fn := fun _ => fun
  | [d1, d2, d3, d4] => { results := [.lit (.bool false)], args := [d1, d2, d3, d4] }
  | _ => none }
def GraphSameWrongFalsely : Prop := graphSameRow.holds Tryz.pinned (OpenSpec.ofChange graphSameWrong)

/-- 'semispacelaw08.GraphMoves': WHATEVER THE INPUT: true; the input reads as it did. -/
def graphMovesSpec : ChangeSpec := { name := "graphMoves", fn := fun _ => fun
  | [d] => { results := [.lit (.bool true)], args := [d] }
  | _ => none }
def graphMovesRow : OpenClaim := { program := "ytdhchmlalchgeaagreat", sum := "1b28eb5455630e2ad2d6eeb52bb23c6fe4d41edb2521e7154d0bba01719f2dd9", func := "semispace/semispacelaw08.GraphMoves", spec := "graphMoves", unfollowed := true, recurses := true, apart := false }
def GraphMovesSaid : Prop := graphMovesRow.holds Tryz.pinned (OpenSpec.ofChange graphMovesSpec)

/-- ITS FALSE NEIGHBOUR: 'it returns false'. Refute it at one input. -/
def graphMovesWrong : ChangeSpec := { name := "graphMoves", fn := fun _ => fun
  | [d] => { results := [.lit (.bool false)], args := [d] }
  | _ => none }
def GraphMovesWrongFalsely : Prop := graphMovesRow.holds Tryz.pinned (OpenSpec.ofChange graphMovesWrong)

/-- 'semispacelaw08.GraphOrders': WHATEVER THE INPUT: true; the input reads as it did. -/
def graphOrdersSpec : ChangeSpec := { name := "graphOrders", fn := fun _ => fun
  | [d1, d2, d3, d4, d5] => { results := [.lit (.bool true)], args := [d1, d2, d3, d4, d5] }
  | _ => none }
def graphOrdersRow : OpenClaim := { program := "ytdhchmlalchgeaagreat", sum := "1b28eb5455630e2ad2d6eeb52bb23c6fe4d41edb2521e7154d0bba01719f2dd9", func := "semispace/semispacelaw08.GraphOrders", spec := "graphOrders", unfollowed := true, recurses := true, apart := false }
def GraphOrdersSaid : Prop := graphOrdersRow.holds Tryz.pinned (OpenSpec.ofChange graphOrdersSpec)

/-- ITS FALSE NEIGHBOUR: 'it returns false'. Refute it at one input. -/
def graphOrdersWrong : ChangeSpec := { name := "graphOrders", fn := fun _ => fun
  | [d1, d2, d3, d4, d5] => { results := [.lit (.bool false)], args := [d1, d2, d3, d4, d5] }
  | _ => none }
def GraphOrdersWrongFalsely : Prop := graphOrdersRow.holds Tryz.pinned (OpenSpec.ofChange graphOrdersWrong)

/-- 'semispacelaw10.EvacuateOnce': WHATEVER THE INPUT: true; the input reads as it did. -/
def evacuateOnceSpec : ChangeSpec := { name := "evacuateOnce", fn := fun _ => fun
  | [d1, d2] => { results := [.lit (.bool true)], args := [d1, d2] }
  | _ => none }
def evacuateOnceRow : OpenClaim := { program := "ytdhchmlalchgeaagreat", sum := "1b28eb5455630e2ad2d6eeb52bb23c6fe4d41edb2521e7154d0bba01719f2dd9", func := "semispace/semispacelaw10.EvacuateOnce", spec := "evacuateOnce", unfollowed := true, recurses := true, apart := false }
def EvacuateOnceSaid : Prop := evacuateOnceRow.holds Tryz.pinned (OpenSpec.ofChange evacuateOnceSpec)

/-- ITS FALSE NEIGHBOUR: 'it returns false'. Refute it at one input. -/
def evacuateOnceWrong : ChangeSpec := { name := "evacuateOnce", fn := fun _ => fun
  | [d1, d2] => { results := [.lit (.bool false)], args := [d1, d2] }
  | _ => none }
def EvacuateOnceWrongFalsely : Prop := evacuateOnceRow.holds Tryz.pinned (OpenSpec.ofChange evacuateOnceWrong)

/-- 'semispacelaw10.EvacuateCopies': WHATEVER THE INPUT: true; the input reads as it did. -/
def evacuateCopiesSpec : ChangeSpec := { name := "evacuateCopies", fn := fun _ => fun
  | [d1, d2] => { results := [.lit (.bool true)], args := [d1, d2] }
  | _ => none }
def evacuateCopiesRow : OpenClaim := { program := "ytdhchmlalchgeaagreat", sum := "1b28eb5455630e2ad2d6eeb52bb23c6fe4d41edb2521e7154d0bba01719f2dd9", func := "semispace/semispacelaw10.EvacuateCopies", spec := "evacuateCopies", unfollowed := true, recurses := true, apart := false }
def EvacuateCopiesSaid : Prop := evacuateCopiesRow.holds Tryz.pinned (OpenSpec.ofChange evacuateCopiesSpec)

/-- ITS FALSE NEIGHBOUR: 'it returns false'. Refute it at one input. -/
def evacuateCopiesWrong : ChangeSpec := { name := "evacuateCopies", fn := fun _ => fun
  | [d1, d2] => { results := [.lit (.bool false)], args := [d1, d2] }
  | _ => none }
def EvacuateCopiesWrongFalsely : Prop := evacuateCopiesRow.holds Tryz.pinned (OpenSpec.ofChange evacuateCopiesWrong)

/-- 'semispacelaw10.EvacuateBegins': WHATEVER THE INPUT: true; the input reads as it did. -/
def evacuateBeginsSpec : ChangeSpec := { name := "evacuateBegins", fn := fun _ => fun
  | [d1, d2, d3] => { results := [.lit (.bool true)], args := [d1, d2, d3] }
  | _ => none }
def evacuateBeginsRow : OpenClaim := { program := "ytdhchmlalchgeaagreat", sum := "1b28eb5455630e2ad2d6eeb52bb23c6fe4d41edb2521e7154d0bba01719f2dd9", func := "semispace/semispacelaw10.EvacuateBegins", spec := "evacuateBegins", unfollowed := true, recurses := true, apart := false }
def EvacuateBeginsSaid : Prop := evacuateBeginsRow.holds Tryz.pinned (OpenSpec.ofChange evacuateBeginsSpec)

/-- ITS FALSE NEIGHBOUR: 'it returns false'. Refute it at one input. -/
def evacuateBeginsWrong : ChangeSpec := { name := "evacuateBegins", fn := fun _ => fun
  | [d1, d2, d3] => { results := [.lit (.bool false)], args := [d1, d2, d3] }
  | _ => none }
def EvacuateBeginsWrongFalsely : Prop := evacuateBeginsRow.holds Tryz.pinned (OpenSpec.ofChange evacuateBeginsWrong)

/-- 'semispacelaw10.EvacuateForwards': WHATEVER THE INPUT: true; the input reads as it did. -/
def evacuateForwardsSpec : ChangeSpec := { name := "evacuateForwards", fn := fun _ => fun
  | [d1, d2, d3] => { results := [.lit (.bool true)], args := [d1, d2, d3] }
  | _ => none }
def evacuateForwardsRow : OpenClaim := { program := "ytdhchmlalchgeaagreat", sum := "1b28eb5455630e2ad2d6eeb52bb23c6fe4d41edb2521e7154d0bba01719f2dd9", func := "semispace/semispacelaw10.EvacuateForwards", spec := "evacuateForwards", unfollowed := true, recurses := true, apart := false }
def EvacuateForwardsSaid : Prop := evacuateForwardsRow.holds Tryz.pinned (OpenSpec.ofChange evacuateForwardsSpec)

/-- ITS FALSE NEIGHBOUR: 'it returns false'. Refute it at one input. -/
def evacuateForwardsWrong : ChangeSpec := { name := "evacuateForwards", fn := fun _ => fun
  | [d1, d2, d3] => { results := [.lit (.bool false)], args := [d1, d2, d3] }
  | _ => none }
def EvacuateForwardsWrongFalsely : Prop := evacuateForwardsRow.holds Tryz.pinned (OpenSpec.ofChange evacuateForwardsWrong)

/-- 'semispacelaw11.ScanSteps': WHATEVER THE INPUT: true; the input reads as it did. -/
def scanStepsSpec : ChangeSpec := { name := "scanSteps", fn := fun _ => fun
  | [d1, d2] => { results := [.lit (.bool true)], args := [d1, d2] }
  | _ => none }
def scanStepsRow : OpenClaim := { program := "ytdhchmlalchgeaagreat", sum := "1b28eb5455630e2ad2d6eeb52bb23c6fe4d41edb2521e7154d0bba01719f2dd9", func := "semispace/semispacelaw11.ScanSteps", spec := "scanSteps", unfollowed := true, recurses := true, apart := false }
def ScanStepsSaid : Prop := scanStepsRow.holds Tryz.pinned (OpenSpec.ofChange scanStepsSpec)

/-- ITS FALSE NEIGHBOUR: 'it returns false'. Refute it at one input. -/
def scanStepsWrong : ChangeSpec := { name := "scanSteps", fn := fun _ => fun
  | [d1, d2] => { results := [.lit (.bool false)], args := [d1, d2] }
  | _ => none }
def ScanStepsWrongFalsely : Prop := scanStepsRow.holds Tryz.pinned (OpenSpec.ofChange scanStepsWrong)

/-- 'semispacelaw11.ScanAll': WHATEVER THE INPUT: true; the input reads as it did. -/
def scanAllSpec : ChangeSpec := { name := "scanAll", fn := fun _ => fun
  | [d] => { results := [.lit (.bool true)], args := [d] }
  | _ => none }
def scanAllRow : OpenClaim := { program := "ytdhchmlalchgeaagreat", sum := "1b28eb5455630e2ad2d6eeb52bb23c6fe4d41edb2521e7154d0bba01719f2dd9", func := "semispace/semispacelaw11.ScanAll", spec := "scanAll", unfollowed := true, recurses := true, apart := false }
def ScanAllSaid : Prop := scanAllRow.holds Tryz.pinned (OpenSpec.ofChange scanAllSpec)

/-- ITS FALSE NEIGHBOUR: 'it returns false'. Refute it at one input. -/
def scanAllWrong : ChangeSpec := { name := "scanAll", fn := fun _ => fun
  | [d] => { results := [.lit (.bool false)], args := [d] }
  | _ => none }
def ScanAllWrongFalsely : Prop := scanAllRow.holds Tryz.pinned (OpenSpec.ofChange scanAllWrong)

/-- 'semispacelaw11.ScanDone': WHATEVER THE INPUT: true; the input reads as it did. -/
def scanDoneSpec : ChangeSpec := { name := "scanDone", fn := fun _ => fun
  | [d] => { results := [.lit (.bool true)], args := [d] }
  | _ => none }
def scanDoneRow : OpenClaim := { program := "ytdhchmlalchgeaagreat", sum := "1b28eb5455630e2ad2d6eeb52bb23c6fe4d41edb2521e7154d0bba01719f2dd9", func := "semispace/semispacelaw11.ScanDone", spec := "scanDone", unfollowed := true, recurses := true, apart := false }
def ScanDoneSaid : Prop := scanDoneRow.holds Tryz.pinned (OpenSpec.ofChange scanDoneSpec)

/-- ITS FALSE NEIGHBOUR: 'it returns false'. Refute it at one input. -/
def scanDoneWrong : ChangeSpec := { name := "scanDone", fn := fun _ => fun
  | [d] => { results := [.lit (.bool false)], args := [d] }
  | _ => none }
def ScanDoneWrongFalsely : Prop := scanDoneRow.holds Tryz.pinned (OpenSpec.ofChange scanDoneWrong)

/-- 'semispacelaw11.ScanOrder': WHATEVER THE INPUT: true; the input reads as it did. -/
def scanOrderSpec : ChangeSpec := { name := "scanOrder", fn := fun _ => fun
  | [d] => { results := [.lit (.bool true)], args := [d] }
  | _ => none }
def scanOrderRow : OpenClaim := { program := "ytdhchmlalchgeaagreat", sum := "1b28eb5455630e2ad2d6eeb52bb23c6fe4d41edb2521e7154d0bba01719f2dd9", func := "semispace/semispacelaw11.ScanOrder", spec := "scanOrder", unfollowed := true, recurses := true, apart := false }
def ScanOrderSaid : Prop := scanOrderRow.holds Tryz.pinned (OpenSpec.ofChange scanOrderSpec)

/-- ITS FALSE NEIGHBOUR: 'it returns false'. Refute it at one input. -/
def scanOrderWrong : ChangeSpec := { name := "scanOrder", fn := fun _ => fun
  | [d] => { results := [.lit (.bool false)], args := [d] }
  | _ => none }
def ScanOrderWrongFalsely : Prop := scanOrderRow.holds Tryz.pinned (OpenSpec.ofChange scanOrderWrong)

/- THE SECOND FORM. 'bulk': how many values and letters a reading holds, each counted each time it is reached (what is shared counts as often as it is met; a slice's spare places count too). A statement '..UptoSaid' is the law's where the arguments, and the package variables that the reading takes, are together of bulk at most 1048576: NARROWER than '..Said'. Prove '..Said' where nothing that the law and all that it calls make is longer than what came in: it says more and counts as full. Else prove '..UptoSaid'. A law counts once. -/
mutual
def uptoBulk {H : Type} : DataW H → Nat
  | .lit (.string bytes) => bytes.length + 1
  | .lit _ => 1
  | .nil => 1
  | .ptr d => uptoBulk d + 1
  | .slice elems spare => uptoBulkAll elems + uptoBulkAll spare + 1
  | .agg parts => uptoBulkAll parts + 1
  | .iface _ d => uptoBulk d + 1
  | .map entries => uptoBulkEntries entries + 1
  | .held _ => 1
def uptoBulkAll {H : Type} : List (DataW H) → Nat
  | [] => 0
  | d :: r => uptoBulk d + uptoBulkAll r
def uptoBulkEntries {H : Type} : List (Lit × DataW H) → Nat
  | [] => 0
  | x :: r => uptoBulkEntry x + uptoBulkEntries r
def uptoBulkEntry {H : Type} : Lit × DataW H → Nat
  | (.string bytes, d) => bytes.length + uptoBulk d + 1
  | (_, d) => uptoBulk d + 1
 end
def uptoSmall : (H : Type) → List (DataW H) → Bool := fun _ ds => decide (uptoBulkAll ds ≤ 1048576)
def OpenSpec.upto (s : _root_.Go.ChangeSpec) : _root_.Go.OpenSpec := { _root_.Go.OpenSpec.ofChange s with cond := some uptoSmall }

/-- 'semispacelaw08.GraphReach', WHERE WHAT IT READS IS OF BULK AT MOST 1048576: true; the input reads as it did. -/
def graphReachUptoRow : OpenClaim := { program := "ytdhchmlalchgeaagreat", sum := "1b28eb5455630e2ad2d6eeb52bb23c6fe4d41edb2521e7154d0bba01719f2dd9", func := "semispace/semispacelaw08.GraphReach", spec := "graphReach", unfollowed := true, recurses := true, apart := false, narrowed := true }
def GraphReachUptoSaid : Prop := graphReachUptoRow.holds Tryz.pinned (OpenSpec.upto graphReachSpec)

/-- 'semispacelaw08.GraphSame', WHERE WHAT IT READS IS OF BULK AT MOST 1048576: true; the input reads as it did. -/
def graphSameUptoRow : OpenClaim := { program := "ytdhchmlalchgeaagreat", sum := "1b28eb5455630e2ad2d6eeb52bb23c6fe4d41edb2521e7154d0bba01719f2dd9", func := "semispace/semispacelaw08.GraphSame", spec := "graphSame", unfollowed := true, recurses := true, apart := false, narrowed := true }
def GraphSameUptoSaid : Prop := graphSameUptoRow.holds Tryz.pinned (OpenSpec.upto graphSameSpec)

/-- 'semispacelaw08.GraphMoves', WHERE WHAT IT READS IS OF BULK AT MOST 1048576: true; the input reads as it did. -/
def graphMovesUptoRow : OpenClaim := { program := "ytdhchmlalchgeaagreat", sum := "1b28eb5455630e2ad2d6eeb52bb23c6fe4d41edb2521e7154d0bba01719f2dd9", func := "semispace/semispacelaw08.GraphMoves", spec := "graphMoves", unfollowed := true, recurses := true, apart := false, narrowed := true }
def GraphMovesUptoSaid : Prop := graphMovesUptoRow.holds Tryz.pinned (OpenSpec.upto graphMovesSpec)

/-- 'semispacelaw08.GraphOrders', WHERE WHAT IT READS IS OF BULK AT MOST 1048576: true; the input reads as it did. -/
def graphOrdersUptoRow : OpenClaim := { program := "ytdhchmlalchgeaagreat", sum := "1b28eb5455630e2ad2d6eeb52bb23c6fe4d41edb2521e7154d0bba01719f2dd9", func := "semispace/semispacelaw08.GraphOrders", spec := "graphOrders", unfollowed := true, recurses := true, apart := false, narrowed := true }
def GraphOrdersUptoSaid : Prop := graphOrdersUptoRow.holds Tryz.pinned (OpenSpec.upto graphOrdersSpec)

/-- 'semispacelaw10.EvacuateOnce', WHERE WHAT IT READS IS OF BULK AT MOST 1048576: true; the input reads as it did. -/
def evacuateOnceUptoRow : OpenClaim := { program := "ytdhchmlalchgeaagreat", sum := "1b28eb5455630e2ad2d6eeb52bb23c6fe4d41edb2521e7154d0bba01719f2dd9", func := "semispace/semispacelaw10.EvacuateOnce", spec := "evacuateOnce", unfollowed := true, recurses := true, apart := false, narrowed := true }
def EvacuateOnceUptoSaid : Prop := evacuateOnceUptoRow.holds Tryz.pinned (OpenSpec.upto evacuateOnceSpec)

/-- 'semispacelaw10.EvacuateCopies', WHERE WHAT IT READS IS OF BULK AT MOST 1048576: true; the input reads as it did. -/
def evacuateCopiesUptoRow : OpenClaim := { program := "ytdhchmlalchgeaagreat", sum := "1b28eb5455630e2ad2d6eeb52bb23c6fe4d41edb2521e7154d0bba01719f2dd9", func := "semispace/semispacelaw10.EvacuateCopies", spec := "evacuateCopies", unfollowed := true, recurses := true, apart := false, narrowed := true }
def EvacuateCopiesUptoSaid : Prop := evacuateCopiesUptoRow.holds Tryz.pinned (OpenSpec.upto evacuateCopiesSpec)

/-- 'semispacelaw10.EvacuateBegins', WHERE WHAT IT READS IS OF BULK AT MOST 1048576: true; the input reads as it did. -/
def evacuateBeginsUptoRow : OpenClaim := { program := "ytdhchmlalchgeaagreat", sum := "1b28eb5455630e2ad2d6eeb52bb23c6fe4d41edb2521e7154d0bba01719f2dd9", func := "semispace/semispacelaw10.EvacuateBegins", spec := "evacuateBegins", unfollowed := true, recurses := true, apart := false, narrowed := true }
def EvacuateBeginsUptoSaid : Prop := evacuateBeginsUptoRow.holds Tryz.pinned (OpenSpec.upto evacuateBeginsSpec)

/-- 'semispacelaw10.EvacuateForwards', WHERE WHAT IT READS IS OF BULK AT MOST 1048576: true; the input reads as it did. -/
def evacuateForwardsUptoRow : OpenClaim := { program := "ytdhchmlalchgeaagreat", sum := "1b28eb5455630e2ad2d6eeb52bb23c6fe4d41edb2521e7154d0bba01719f2dd9", func := "semispace/semispacelaw10.EvacuateForwards", spec := "evacuateForwards", unfollowed := true, recurses := true, apart := false, narrowed := true }
def EvacuateForwardsUptoSaid : Prop := evacuateForwardsUptoRow.holds Tryz.pinned (OpenSpec.upto evacuateForwardsSpec)

/-- 'semispacelaw11.ScanSteps', WHERE WHAT IT READS IS OF BULK AT MOST 1048576: true; the input reads as it did. -/
def scanStepsUptoRow : OpenClaim := { program := "ytdhchmlalchgeaagreat", sum := "1b28eb5455630e2ad2d6eeb52bb23c6fe4d41edb2521e7154d0bba01719f2dd9", func := "semispace/semispacelaw11.ScanSteps", spec := "scanSteps", unfollowed := true, recurses := true, apart := false, narrowed := true }
def ScanStepsUptoSaid : Prop := scanStepsUptoRow.holds Tryz.pinned (OpenSpec.upto scanStepsSpec)

/-- 'semispacelaw11.ScanAll', WHERE WHAT IT READS IS OF BULK AT MOST 1048576: true; the input reads as it did. -/
def scanAllUptoRow : OpenClaim := { program := "ytdhchmlalchgeaagreat", sum := "1b28eb5455630e2ad2d6eeb52bb23c6fe4d41edb2521e7154d0bba01719f2dd9", func := "semispace/semispacelaw11.ScanAll", spec := "scanAll", unfollowed := true, recurses := true, apart := false, narrowed := true }
def ScanAllUptoSaid : Prop := scanAllUptoRow.holds Tryz.pinned (OpenSpec.upto scanAllSpec)

/-- 'semispacelaw11.ScanDone', WHERE WHAT IT READS IS OF BULK AT MOST 1048576: true; the input reads as it did. -/
def scanDoneUptoRow : OpenClaim := { program := "ytdhchmlalchgeaagreat", sum := "1b28eb5455630e2ad2d6eeb52bb23c6fe4d41edb2521e7154d0bba01719f2dd9", func := "semispace/semispacelaw11.ScanDone", spec := "scanDone", unfollowed := true, recurses := true, apart := false, narrowed := true }
def ScanDoneUptoSaid : Prop := scanDoneUptoRow.holds Tryz.pinned (OpenSpec.upto scanDoneSpec)

/-- 'semispacelaw11.ScanOrder', WHERE WHAT IT READS IS OF BULK AT MOST 1048576: true; the input reads as it did. -/
def scanOrderUptoRow : OpenClaim := { program := "ytdhchmlalchgeaagreat", sum := "1b28eb5455630e2ad2d6eeb52bb23c6fe4d41edb2521e7154d0bba01719f2dd9", func := "semispace/semispacelaw11.ScanOrder", spec := "scanOrder", unfollowed := true, recurses := true, apart := false, narrowed := true }
def ScanOrderUptoSaid : Prop := scanOrderUptoRow.holds Tryz.pinned (OpenSpec.upto scanOrderSpec)

end Rows
end Go.Proofs.YtdhchmlalchgeaaGreat
