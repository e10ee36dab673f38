/-
  No cell of these rows narrows 'for every input' (looked for: loops, veiled, ifaces, maps, wideKeys, modest, calm, conditions, laid).
  DERIVED. THE GIVEN ROWS OF THIS SEAT. 12 by the template 'for every input the law returns true; each argument reads behind the call as it read before'; 0 by the template 'total and deterministic' (their statements: YtgedmeaemofdkaaGreatTotals.lean).
  GIVEN WITH THE SEED: the statements are not yours to turn. If you find one false, say at which input.
  Laid BY PROGRAM, IN A SANDBOX (cutbox-rows.mjs): the forced cells as the released guide's own fill.sh prints them over the translation 47aa096d0816dfa5… (all of the seat's roots in one cut). By AI agents, Wed Nov 11 2026. No macro, syntax, notation, axiom, sorry.
-/
import Derived.Test.YtgedmeaemofdkaaGreatChecked
import GoSem.Claim
import GoSem.ClaimJoined
import GoSem.ClaimMapViews
import Derived.JoinedTies
import Derived.KernelRfl
namespace Go.Proofs.YtgedmeaemofdkaaGreat
/- THE CELL 'sum', in the pinned program and in every row, IS THE sha256 OF THE DUMP (.gsa) THAT YtgedmeaemofdkaaGreatProg.lean LOADS. Nothing in Lean hashes anything: it is a label: what it is worth is what the hold of that sum in a sandbox is worth. -/
noncomputable def Tryz.pinned : Pinned := { name := "ytgedmeaemofdkaagreat", sum := "47aa096d0816dfa55ffe2b42da4071ec4096daa92a068bcd567200da541a0902", checked := Tryz.checked }
namespace Rows
def none {H : Type} : Left H := { results := [], args := [] }

/-- 'semispacelaw08.GraphReach': WHATEVER THE INPUT: true; the input reads as it did. -/
def graphReachSpec : ChangeSpec := { name := "graphReach", fn := fun _ => fun
  | [d] => { results := [.lit (.bool true)], args := [d] }
  | _ => none }
def graphReachRow : OpenClaim := { program := "ytgedmeaemofdkaagreat", sum := "47aa096d0816dfa55ffe2b42da4071ec4096daa92a068bcd567200da541a0902", func := "semispace/semispacelaw08.GraphReach", spec := "graphReach", unfollowed := true, recurses := true, apart := false }
def GraphReachSaid : Prop := graphReachRow.holds Tryz.pinned (OpenSpec.ofChange graphReachSpec)

/-- ITS FALSE NEIGHBOUR: 'it returns false'. Refute it at one input. -/
def graphReachWrong : ChangeSpec := { name := "graphReach", fn := fun _ => fun
  | [d] => { results := [.lit (.bool false)], args := [d] }
  | _ => none }
def GraphReachWrongFalsely : Prop := graphReachRow.holds Tryz.pinned (OpenSpec.ofChange graphReachWrong)

/-- 'semispacelaw08.GraphSame': WHATEVER THE INPUT: true; the input reads as it did. -/
def graphSameSpec : ChangeSpec := { name := "graphSame", fn := fun _ => fun
  | [d1, d2, d3, d4] => { results := [.lit (.bool true)], args := [d1, d2, d3, d4] }
  | _ => none }
def graphSameRow : OpenClaim := { program := "ytgedmeaemofdkaagreat", sum := "47aa096d0816dfa55ffe2b42da4071ec4096daa92a068bcd567200da541a0902", func := "semispace/semispacelaw08.GraphSame", spec := "graphSame", unfollowed := true, recurses := true, apart := false }
def GraphSameSaid : Prop := graphSameRow.holds Tryz.pinned (OpenSpec.ofChange graphSameSpec)

/-- ITS FALSE NEIGHBOUR: 'it returns false'. Refute it at one input. -/
def graphSameWrong : ChangeSpec := { name := "graphSame", fn := fun _ => fun
  | [d1, d2, d3, d4] => { results := [.lit (.bool false)], args := [d1, d2, d3, d4] }
  | _ => none }
def GraphSameWrongFalsely : Prop := graphSameRow.holds Tryz.pinned (OpenSpec.ofChange graphSameWrong)

/-- 'semispacelaw08.GraphMoves': WHATEVER THE INPUT: true; the input reads as it did. -/
def graphMovesSpec : ChangeSpec := { name := "graphMoves", fn := fun _ => fun
  | [d] => { results := [.lit (.bool true)], args := [d] }
  | _ => none }
def graphMovesRow : OpenClaim := { program := "ytgedmeaemofdkaagreat", sum := "47aa096d0816dfa55ffe2b42da4071ec4096daa92a068bcd567200da541a0902", func := "semispace/semispacelaw08.GraphMoves", spec := "graphMoves", unfollowed := true, recurses := true, apart := false }
def GraphMovesSaid : Prop := graphMovesRow.holds Tryz.pinned (OpenSpec.ofChange graphMovesSpec)

/-- ITS FALSE NEIGHBOUR: 'it returns false'. Refute it at one input. -/
def graphMovesWrong : ChangeSpec := { name := "graphMoves", fn := fun _ => fun
  | [d] => { results := [.lit (.bool false)], args := [d] }
  | _ => none }
def GraphMovesWrongFalsely : Prop := graphMovesRow.holds Tryz.pinned (OpenSpec.ofChange graphMovesWrong)

/-- 'semispacelaw08.GraphOrders': WHATEVER THE INPUT: true; the input reads as it did. -/
def graphOrdersSpec : ChangeSpec := { name := "graphOrders", fn := fun _ => fun
  | [d1, d2, d3, d4, d5] => { results := [.lit (.bool true)], args := [d1, d2, d3, d4, d5] }
  | _ => none }
def graphOrdersRow : OpenClaim := { program := "ytgedmeaemofdkaagreat", sum := "47aa096d0816dfa55ffe2b42da4071ec4096daa92a068bcd567200da541a0902", func := "semispace/semispacelaw08.GraphOrders", spec := "graphOrders", unfollowed := true, recurses := true, apart := false }
def GraphOrdersSaid : Prop := graphOrdersRow.holds Tryz.pinned (OpenSpec.ofChange graphOrdersSpec)

/-- ITS FALSE NEIGHBOUR: 'it returns false'. Refute it at one input. -/
def graphOrdersWrong : ChangeSpec := { name := "graphOrders", fn := fun _ => fun
  | [d1, d2, d3, d4, d5] => { results := [.lit (.bool false)], args := [d1, d2, d3, d4, d5] }
  | _ => none }
def GraphOrdersWrongFalsely : Prop := graphOrdersRow.holds Tryz.pinned (OpenSpec.ofChange graphOrdersWrong)

/-- 'semispacelaw12.CollectHeaps': WHATEVER THE INPUT: true; the input reads as it did. -/
def collectHeapsSpec : ChangeSpec := { name := "collectHeaps", fn := fun _ => fun
  | [d1, d2, d3, d4, d5] => { results := [.lit (.bool true)], args := [d1, d2, d3, d4, d5] }
  | _ => none }
def collectHeapsRow : OpenClaim := { program := "ytgedmeaemofdkaagreat", sum := "47aa096d0816dfa55ffe2b42da4071ec4096daa92a068bcd567200da541a0902", func := "semispace/semispacelaw12.CollectHeaps", spec := "collectHeaps", unfollowed := true, recurses := true, apart := false }
def CollectHeapsSaid : Prop := collectHeapsRow.holds Tryz.pinned (OpenSpec.ofChange collectHeapsSpec)

/-- ITS FALSE NEIGHBOUR: 'it returns false'. Refute it at one input. -/
def collectHeapsWrong : ChangeSpec := { name := "collectHeaps", fn := fun _ => fun
  | [d1, d2, d3, d4, d5] => { results := [.lit (.bool false)], args := [d1, d2, d3, d4, d5] }
  | _ => none }
def CollectHeapsWrongFalsely : Prop := collectHeapsRow.holds Tryz.pinned (OpenSpec.ofChange collectHeapsWrong)

/-- 'semispacelaw12.CollectKeeps': WHATEVER THE INPUT: true; the input reads as it did. -/
def collectKeepsSpec : ChangeSpec := { name := "collectKeeps", fn := fun _ => fun
  | [d] => { results := [.lit (.bool true)], args := [d] }
  | _ => none }
def collectKeepsRow : OpenClaim := { program := "ytgedmeaemofdkaagreat", sum := "47aa096d0816dfa55ffe2b42da4071ec4096daa92a068bcd567200da541a0902", func := "semispace/semispacelaw12.CollectKeeps", spec := "collectKeeps", unfollowed := true, recurses := true, apart := false }
def CollectKeepsSaid : Prop := collectKeepsRow.holds Tryz.pinned (OpenSpec.ofChange collectKeepsSpec)

/-- ITS FALSE NEIGHBOUR: 'it returns false'. Refute it at one input. -/
def collectKeepsWrong : ChangeSpec := { name := "collectKeeps", fn := fun _ => fun
  | [d] => { results := [.lit (.bool false)], args := [d] }
  | _ => none }
def CollectKeepsWrongFalsely : Prop := collectKeepsRow.holds Tryz.pinned (OpenSpec.ofChange collectKeepsWrong)

/-- 'semispacelaw12.CollectReclaims': WHATEVER THE INPUT: true; the input reads as it did. -/
def collectReclaimsSpec : ChangeSpec := { name := "collectReclaims", fn := fun _ => fun
  | [d] => { results := [.lit (.bool true)], args := [d] }
  | _ => none }
def collectReclaimsRow : OpenClaim := { program := "ytgedmeaemofdkaagreat", sum := "47aa096d0816dfa55ffe2b42da4071ec4096daa92a068bcd567200da541a0902", func := "semispace/semispacelaw12.CollectReclaims", spec := "collectReclaims", unfollowed := true, recurses := true, apart := false }
def CollectReclaimsSaid : Prop := collectReclaimsRow.holds Tryz.pinned (OpenSpec.ofChange collectReclaimsSpec)

/-- ITS FALSE NEIGHBOUR: 'it returns false'. Refute it at one input. -/
def collectReclaimsWrong : ChangeSpec := { name := "collectReclaims", fn := fun _ => fun
  | [d] => { results := [.lit (.bool false)], args := [d] }
  | _ => none }
def CollectReclaimsWrongFalsely : Prop := collectReclaimsRow.holds Tryz.pinned (OpenSpec.ofChange collectReclaimsWrong)

/-- 'semispacelaw12.CollectStays': WHATEVER THE INPUT: true; the input reads as it did. -/
def collectStaysSpec : ChangeSpec := { name := "collectStays", fn := fun _ => fun
  | [d] => { results := [.lit (.bool true)], args := [d] }
  | _ => none }
def collectStaysRow : OpenClaim := { program := "ytgedmeaemofdkaagreat", sum := "47aa096d0816dfa55ffe2b42da4071ec4096daa92a068bcd567200da541a0902", func := "semispace/semispacelaw12.CollectStays", spec := "collectStays", unfollowed := true, recurses := true, apart := false }
def CollectStaysSaid : Prop := collectStaysRow.holds Tryz.pinned (OpenSpec.ofChange collectStaysSpec)

/-- ITS FALSE NEIGHBOUR: 'it returns false'. Refute it at one input. -/
def collectStaysWrong : ChangeSpec := { name := "collectStays", fn := fun _ => fun
  | [d] => { results := [.lit (.bool false)], args := [d] }
  | _ => none }
def CollectStaysWrongFalsely : Prop := collectStaysRow.holds Tryz.pinned (OpenSpec.ofChange collectStaysWrong)

/-- 'semispacelaw12.CollectWeak': WHATEVER THE INPUT: true; the input reads as it did. -/
def collectWeakSpec : ChangeSpec := { name := "collectWeak", fn := fun _ => fun
  | [d] => { results := [.lit (.bool true)], args := [d] }
  | _ => none }
def collectWeakRow : OpenClaim := { program := "ytgedmeaemofdkaagreat", sum := "47aa096d0816dfa55ffe2b42da4071ec4096daa92a068bcd567200da541a0902", func := "semispace/semispacelaw12.CollectWeak", spec := "collectWeak", unfollowed := true, recurses := true, apart := false }
def CollectWeakSaid : Prop := collectWeakRow.holds Tryz.pinned (OpenSpec.ofChange collectWeakSpec)

/-- ITS FALSE NEIGHBOUR: 'it returns false'. Refute it at one input. -/
def collectWeakWrong : ChangeSpec := { name := "collectWeak", fn := fun _ => fun
  | [d] => { results := [.lit (.bool false)], args := [d] }
  | _ => none }
def CollectWeakWrongFalsely : Prop := collectWeakRow.holds Tryz.pinned (OpenSpec.ofChange collectWeakWrong)

/-- 'semispacelaw12.CollectAgain': WHATEVER THE INPUT: true; the input reads as it did. -/
def collectAgainSpec : ChangeSpec := { name := "collectAgain", fn := fun _ => fun
  | [d] => { results := [.lit (.bool true)], args := [d] }
  | _ => none }
def collectAgainRow : OpenClaim := { program := "ytgedmeaemofdkaagreat", sum := "47aa096d0816dfa55ffe2b42da4071ec4096daa92a068bcd567200da541a0902", func := "semispace/semispacelaw12.CollectAgain", spec := "collectAgain", unfollowed := true, recurses := true, apart := false }
def CollectAgainSaid : Prop := collectAgainRow.holds Tryz.pinned (OpenSpec.ofChange collectAgainSpec)

/-- ITS FALSE NEIGHBOUR: 'it returns false'. Refute it at one input. -/
def collectAgainWrong : ChangeSpec := { name := "collectAgain", fn := fun _ => fun
  | [d] => { results := [.lit (.bool false)], args := [d] }
  | _ => none }
def CollectAgainWrongFalsely : Prop := collectAgainRow.holds Tryz.pinned (OpenSpec.ofChange collectAgainWrong)

/-- 'semispacelaw12.CollectRoom': WHATEVER THE INPUT: true; the input reads as it did. -/
def collectRoomSpec : ChangeSpec := { name := "collectRoom", fn := fun _ => fun
  | [d] => { results := [.lit (.bool true)], args := [d] }
  | _ => none }
def collectRoomRow : OpenClaim := { program := "ytgedmeaemofdkaagreat", sum := "47aa096d0816dfa55ffe2b42da4071ec4096daa92a068bcd567200da541a0902", func := "semispace/semispacelaw12.CollectRoom", spec := "collectRoom", unfollowed := true, recurses := true, apart := false }
def CollectRoomSaid : Prop := collectRoomRow.holds Tryz.pinned (OpenSpec.ofChange collectRoomSpec)

/-- ITS FALSE NEIGHBOUR: 'it returns false'. Refute it at one input. -/
def collectRoomWrong : ChangeSpec := { name := "collectRoom", fn := fun _ => fun
  | [d] => { results := [.lit (.bool false)], args := [d] }
  | _ => none }
def CollectRoomWrongFalsely : Prop := collectRoomRow.holds Tryz.pinned (OpenSpec.ofChange collectRoomWrong)

/-- 'semispacelaw13.BoundMeasures': WHATEVER THE INPUT: true; the input reads as it did. -/
def boundMeasuresSpec : ChangeSpec := { name := "boundMeasures", fn := fun _ => fun
  | [d1, d2, d3, d4] => { results := [.lit (.bool true)], args := [d1, d2, d3, d4] }
  | _ => none }
def boundMeasuresRow : OpenClaim := { program := "ytgedmeaemofdkaagreat", sum := "47aa096d0816dfa55ffe2b42da4071ec4096daa92a068bcd567200da541a0902", func := "semispace/semispacelaw13.BoundMeasures", spec := "boundMeasures", unfollowed := true, recurses := true, apart := false }
def BoundMeasuresSaid : Prop := boundMeasuresRow.holds Tryz.pinned (OpenSpec.ofChange boundMeasuresSpec)

/-- ITS FALSE NEIGHBOUR: 'it returns false'. Refute it at one input. -/
def boundMeasuresWrong : ChangeSpec := { name := "boundMeasures", fn := fun _ => fun
  | [d1, d2, d3, d4] => { results := [.lit (.bool false)], args := [d1, d2, d3, d4] }
  | _ => none }
def BoundMeasuresWrongFalsely : Prop := boundMeasuresRow.holds Tryz.pinned (OpenSpec.ofChange boundMeasuresWrong)

/- THE SECOND FORM. 'bulk': how many values and letters a reading holds, each counted each time it is reached (what is shared counts as often as it is met; a slice's spare places count too). A statement '..UptoSaid' is the law's where the arguments, and the package variables that the reading takes, are together of bulk at most 1048576: NARROWER than '..Said'. Prove '..Said' where nothing that the law and all that it calls make is longer than what came in: it says more and counts as full. Else prove '..UptoSaid'. A law counts once. -/
mutual
def uptoBulk {H : Type} : DataW H → Nat
  | .lit (.string bytes) => bytes.length + 1
  | .lit _ => 1
  | .nil => 1
  | .ptr d => uptoBulk d + 1
  | .slice elems spare => uptoBulkAll elems + uptoBulkAll spare + 1
  | .agg parts => uptoBulkAll parts + 1
  | .iface _ d => uptoBulk d + 1
  | .map entries => uptoBulkEntries entries + 1
  | .held _ => 1
def uptoBulkAll {H : Type} : List (DataW H) → Nat
  | [] => 0
  | d :: r => uptoBulk d + uptoBulkAll r
def uptoBulkEntries {H : Type} : List (Lit × DataW H) → Nat
  | [] => 0
  | x :: r => uptoBulkEntry x + uptoBulkEntries r
def uptoBulkEntry {H : Type} : Lit × DataW H → Nat
  | (.string bytes, d) => bytes.length + uptoBulk d + 1
  | (_, d) => uptoBulk d + 1
 end
def uptoSmall : (H : Type) → List (DataW H) → Bool := fun _ ds => decide (uptoBulkAll ds ≤ 1048576)
def OpenSpec.upto (s : _root_.Go.ChangeSpec) : _root_.Go.OpenSpec := { _root_.Go.OpenSpec.ofChange s with cond := some uptoSmall }

/-- 'semispacelaw08.GraphReach', WHERE WHAT IT READS IS OF BULK AT MOST 1048576: true; the input reads as it did. -/
def graphReachUptoRow : OpenClaim := { program := "ytgedmeaemofdkaagreat", sum := "47aa096d0816dfa55ffe2b42da4071ec4096daa92a068bcd567200da541a0902", func := "semispace/semispacelaw08.GraphReach", spec := "graphReach", unfollowed := true, recurses := true, apart := false, narrowed := true }
def GraphReachUptoSaid : Prop := graphReachUptoRow.holds Tryz.pinned (OpenSpec.upto graphReachSpec)

/-- 'semispacelaw08.GraphSame', WHERE WHAT IT READS IS OF BULK AT MOST 1048576: true; the input reads as it did. -/
def graphSameUptoRow : OpenClaim := { program := "ytgedmeaemofdkaagreat", sum := "47aa096d0816dfa55ffe2b42da4071ec4096daa92a068bcd567200da541a0902", func := "semispace/semispacelaw08.GraphSame", spec := "graphSame", unfollowed := true, recurses := true, apart := false, narrowed := true }
def GraphSameUptoSaid : Prop := graphSameUptoRow.holds Tryz.pinned (OpenSpec.upto graphSameSpec)

/-- 'semispacelaw08.GraphMoves', WHERE WHAT IT READS IS OF BULK AT MOST 1048576: true; the input reads as it did. -/
def graphMovesUptoRow : OpenClaim := { program := "ytgedmeaemofdkaagreat", sum := "47aa096d0816dfa55ffe2b42da4071ec4096daa92a068bcd567200da541a0902", func := "semispace/semispacelaw08.GraphMoves", spec := "graphMoves", unfollowed := true, recurses := true, apart := false, narrowed := true }
def GraphMovesUptoSaid : Prop := graphMovesUptoRow.holds Tryz.pinned (OpenSpec.upto graphMovesSpec)

/-- 'semispacelaw08.GraphOrders', WHERE WHAT IT READS IS OF BULK AT MOST 1048576: true; the input reads as it did. -/
def graphOrdersUptoRow : OpenClaim := { program := "ytgedmeaemofdkaagreat", sum := "47aa096d0816dfa55ffe2b42da4071ec4096daa92a068bcd567200da541a0902", func := "semispace/semispacelaw08.GraphOrders", spec := "graphOrders", unfollowed := true, recurses := true, apart := false, narrowed := true }
def GraphOrdersUptoSaid : Prop := graphOrdersUptoRow.holds Tryz.pinned (OpenSpec.upto graphOrdersSpec)

/-- 'semispacelaw12.CollectHeaps', WHERE WHAT IT READS IS OF BULK AT MOST 1048576: true; the input reads as it did. -/
def collectHeapsUptoRow : OpenClaim := { program := "ytgedmeaemofdkaagreat", sum := "47aa096d0816dfa55ffe2b42da4071ec4096daa92a068bcd567200da541a0902", func := "semispace/semispacelaw12.CollectHeaps", spec := "collectHeaps", unfollowed := true, recurses := true, apart := false, narrowed := true }
def CollectHeapsUptoSaid : Prop := collectHeapsUptoRow.holds Tryz.pinned (OpenSpec.upto collectHeapsSpec)

/-- 'semispacelaw12.CollectKeeps', WHERE WHAT IT READS IS OF BULK AT MOST 1048576: true; the input reads as it did. -/
def collectKeepsUptoRow : OpenClaim := { program := "ytgedmeaemofdkaagreat", sum := "47aa096d0816dfa55ffe2b42da4071ec4096daa92a068bcd567200da541a0902", func := "semispace/semispacelaw12.CollectKeeps", spec := "collectKeeps", unfollowed := true, recurses := true, apart := false, narrowed := true }
def CollectKeepsUptoSaid : Prop := collectKeepsUptoRow.holds Tryz.pinned (OpenSpec.upto collectKeepsSpec)

/-- 'semispacelaw12.CollectReclaims', WHERE WHAT IT READS IS OF BULK AT MOST 1048576: true; the input reads as it did. -/
def collectReclaimsUptoRow : OpenClaim := { program := "ytgedmeaemofdkaagreat", sum := "47aa096d0816dfa55ffe2b42da4071ec4096daa92a068bcd567200da541a0902", func := "semispace/semispacelaw12.CollectReclaims", spec := "collectReclaims", unfollowed := true, recurses := true, apart := false, narrowed := true }
def CollectReclaimsUptoSaid : Prop := collectReclaimsUptoRow.holds Tryz.pinned (OpenSpec.upto collectReclaimsSpec)

/-- 'semispacelaw12.CollectStays', WHERE WHAT IT READS IS OF BULK AT MOST 1048576: true; the input reads as it did. -/
def collectStaysUptoRow : OpenClaim := { program := "ytgedmeaemofdkaagreat", sum := "47aa096d0816dfa55ffe2b42da4071ec4096daa92a068bcd567200da541a0902", func := "semispace/semispacelaw12.CollectStays", spec := "collectStays", unfollowed := true, recurses := true, apart := false, narrowed := true }
def CollectStaysUptoSaid : Prop := collectStaysUptoRow.holds Tryz.pinned (OpenSpec.upto collectStaysSpec)

/-- 'semispacelaw12.CollectWeak', WHERE WHAT IT READS IS OF BULK AT MOST 1048576: true; the input reads as it did. -/
def collectWeakUptoRow : OpenClaim := { program := "ytgedmeaemofdkaagreat", sum := "47aa096d0816dfa55ffe2b42da4071ec4096daa92a068bcd567200da541a0902", func := "semispace/semispacelaw12.CollectWeak", spec := "collectWeak", unfollowed := true, recurses := true, apart := false, narrowed := true }
def CollectWeakUptoSaid : Prop := collectWeakUptoRow.holds Tryz.pinned (OpenSpec.upto collectWeakSpec)

/-- 'semispacelaw12.CollectAgain', WHERE WHAT IT READS IS OF BULK AT MOST 1048576: true; the input reads as it did. -/
def collectAgainUptoRow : OpenClaim := { program := "ytgedmeaemofdkaagreat", sum := "47aa096d0816dfa55ffe2b42da4071ec4096daa92a068bcd567200da541a0902", func := "semispace/semispacelaw12.CollectAgain", spec := "collectAgain", unfollowed := true, recurses := true, apart := false, narrowed := true }
def CollectAgainUptoSaid : Prop := collectAgainUptoRow.holds Tryz.pinned (OpenSpec.upto collectAgainSpec)

/-- 'semispacelaw12.CollectRoom', WHERE WHAT IT READS IS OF BULK AT MOST 1048576: true; the input reads as it did. -/
def collectRoomUptoRow : OpenClaim := { program := "ytgedmeaemofdkaagreat", sum := "47aa096d0816dfa55ffe2b42da4071ec4096daa92a068bcd567200da541a0902", func := "semispace/semispacelaw12.CollectRoom", spec := "collectRoom", unfollowed := true, recurses := true, apart := false, narrowed := true }
def CollectRoomUptoSaid : Prop := collectRoomUptoRow.holds Tryz.pinned (OpenSpec.upto collectRoomSpec)

/-- 'semispacelaw13.BoundMeasures', WHERE WHAT IT READS IS OF BULK AT MOST 1048576: true; the input reads as it did. -/
def boundMeasuresUptoRow : OpenClaim := { program := "ytgedmeaemofdkaagreat", sum := "47aa096d0816dfa55ffe2b42da4071ec4096daa92a068bcd567200da541a0902", func := "semispace/semispacelaw13.BoundMeasures", spec := "boundMeasures", unfollowed := true, recurses := true, apart := false, narrowed := true }
def BoundMeasuresUptoSaid : Prop := boundMeasuresUptoRow.holds Tryz.pinned (OpenSpec.upto boundMeasuresSpec)

end Rows
end Go.Proofs.YtgedmeaemofdkaaGreat
