/-
  No cell of these rows narrows 'for every input' (looked for: loops, veiled, ifaces, maps, wideKeys, modest, calm, conditions, laid).
  DERIVED. THE GIVEN ROWS OF THIS SEAT. 12 by the template 'for every input the law returns true; each argument reads behind the call as it read before'; 0 by the template 'total and deterministic' (their statements: YtolnblaadleknaaGreatTotals.lean).
  GIVEN WITH THE SEED: the statements are not yours to turn. If you find one false, say at which input.
  Laid BY PROGRAM, IN A SANDBOX (cutbox-rows.mjs): the forced cells as the released guide's own fill.sh prints them over the translation 8d3c98fed7c6edfe… (all of the seat's roots in one cut). By AI agents, Wed Nov 11 2026. No macro, syntax, notation, axiom, sorry.
-/
import Derived.Test.YtolnblaadleknaaGreatChecked
import GoSem.Claim
import GoSem.ClaimJoined
import GoSem.ClaimMapViews
import Derived.JoinedTies
import Derived.KernelRfl
namespace Go.Proofs.YtolnblaadleknaaGreat
/- THE CELL 'sum', in the pinned program and in every row, IS THE sha256 OF THE DUMP (.gsa) THAT YtolnblaadleknaaGreatProg.lean LOADS. Nothing in Lean hashes anything: it is a label: what it is worth is what the hold of that sum in a sandbox is worth. -/
noncomputable def Tryz.pinned : Pinned := { name := "ytolnblaadleknaagreat", sum := "8d3c98fed7c6edfeee96c7bc9deaef9f6e6e5ef9498233ec1144183f08342207", checked := Tryz.checked }
namespace Rows
def none {H : Type} : Left H := { results := [], args := [] }

/-- 'semispacelaw04.PageGives': WHATEVER THE INPUT: true; the input reads as it did. -/
def pageGivesSpec : ChangeSpec := { name := "pageGives", fn := fun _ => fun
  | [d1, d2, d3] => { results := [.lit (.bool true)], args := [d1, d2, d3] }
  | _ => none }
def pageGivesRow : OpenClaim := { program := "ytolnblaadleknaagreat", sum := "8d3c98fed7c6edfeee96c7bc9deaef9f6e6e5ef9498233ec1144183f08342207", func := "semispace/semispacelaw04.PageGives", spec := "pageGives", unfollowed := true, recurses := true, apart := false }
def PageGivesSaid : Prop := pageGivesRow.holds Tryz.pinned (OpenSpec.ofChange pageGivesSpec)

/-- ITS FALSE NEIGHBOUR: 'it returns false'. Refute it at one input. -/
def pageGivesWrong : ChangeSpec := { name := "pageGives", fn := fun _ => fun
  | [d1, d2, d3] => { results := [.lit (.bool false)], args := [d1, d2, d3] }
  | _ => none }
def PageGivesWrongFalsely : Prop := pageGivesRow.holds Tryz.pinned (OpenSpec.ofChange pageGivesWrong)

/-- 'semispacelaw06.WalkCounts': WHATEVER THE INPUT: true; the input reads as it did. -/
def walkCountsSpec : ChangeSpec := { name := "walkCounts", fn := fun _ => fun
  | [d1, d2, d3] => { results := [.lit (.bool true)], args := [d1, d2, d3] }
  | _ => none }
def walkCountsRow : OpenClaim := { program := "ytolnblaadleknaagreat", sum := "8d3c98fed7c6edfeee96c7bc9deaef9f6e6e5ef9498233ec1144183f08342207", func := "semispace/semispacelaw06.WalkCounts", spec := "walkCounts", unfollowed := true, recurses := true, apart := false }
def WalkCountsSaid : Prop := walkCountsRow.holds Tryz.pinned (OpenSpec.ofChange walkCountsSpec)

/-- ITS FALSE NEIGHBOUR: 'it returns false'. Refute it at one input. -/
def walkCountsWrong : ChangeSpec := { name := "walkCounts", fn := fun _ => fun
  | [d1, d2, d3] => { results := [.lit (.bool false)], args := [d1, d2, d3] }
  | _ => none }
def WalkCountsWrongFalsely : Prop := walkCountsRow.holds Tryz.pinned (OpenSpec.ofChange walkCountsWrong)

/-- 'semispacelaw06.WalkPages': WHATEVER THE INPUT: true; the input reads as it did. -/
def walkPagesSpec : ChangeSpec := { name := "walkPages", fn := fun _ => fun
  | [d1, d2, d3, d4] => { results := [.lit (.bool true)], args := [d1, d2, d3, d4] }
  | _ => none }
def walkPagesRow : OpenClaim := { program := "ytolnblaadleknaagreat", sum := "8d3c98fed7c6edfeee96c7bc9deaef9f6e6e5ef9498233ec1144183f08342207", func := "semispace/semispacelaw06.WalkPages", spec := "walkPages", unfollowed := true, recurses := true, apart := false }
def WalkPagesSaid : Prop := walkPagesRow.holds Tryz.pinned (OpenSpec.ofChange walkPagesSpec)

/-- ITS FALSE NEIGHBOUR: 'it returns false'. Refute it at one input. -/
def walkPagesWrong : ChangeSpec := { name := "walkPages", fn := fun _ => fun
  | [d1, d2, d3, d4] => { results := [.lit (.bool false)], args := [d1, d2, d3, d4] }
  | _ => none }
def WalkPagesWrongFalsely : Prop := walkPagesRow.holds Tryz.pinned (OpenSpec.ofChange walkPagesWrong)

/-- 'semispacelaw06.WalkObjects': WHATEVER THE INPUT: true; the input reads as it did. -/
def walkObjectsSpec : ChangeSpec := { name := "walkObjects", fn := fun _ => fun
  | [d1, d2, d3, d4] => { results := [.lit (.bool true)], args := [d1, d2, d3, d4] }
  | _ => none }
def walkObjectsRow : OpenClaim := { program := "ytolnblaadleknaagreat", sum := "8d3c98fed7c6edfeee96c7bc9deaef9f6e6e5ef9498233ec1144183f08342207", func := "semispace/semispacelaw06.WalkObjects", spec := "walkObjects", unfollowed := true, recurses := true, apart := false }
def WalkObjectsSaid : Prop := walkObjectsRow.holds Tryz.pinned (OpenSpec.ofChange walkObjectsSpec)

/-- ITS FALSE NEIGHBOUR: 'it returns false'. Refute it at one input. -/
def walkObjectsWrong : ChangeSpec := { name := "walkObjects", fn := fun _ => fun
  | [d1, d2, d3, d4] => { results := [.lit (.bool false)], args := [d1, d2, d3, d4] }
  | _ => none }
def WalkObjectsWrongFalsely : Prop := walkObjectsRow.holds Tryz.pinned (OpenSpec.ofChange walkObjectsWrong)

/-- 'semispacelaw06.WalkFills': WHATEVER THE INPUT: true; the input reads as it did. -/
def walkFillsSpec : ChangeSpec := { name := "walkFills", fn := fun _ => fun
  | [d1, d2, d3, d4, d5] => { results := [.lit (.bool true)], args := [d1, d2, d3, d4, d5] }
  | _ => none }
def walkFillsRow : OpenClaim := { program := "ytolnblaadleknaagreat", sum := "8d3c98fed7c6edfeee96c7bc9deaef9f6e6e5ef9498233ec1144183f08342207", func := "semispace/semispacelaw06.WalkFills", spec := "walkFills", unfollowed := true, recurses := true, apart := false }
def WalkFillsSaid : Prop := walkFillsRow.holds Tryz.pinned (OpenSpec.ofChange walkFillsSpec)

/-- ITS FALSE NEIGHBOUR: 'it returns false'. Refute it at one input. -/
def walkFillsWrong : ChangeSpec := { name := "walkFills", fn := fun _ => fun
  | [d1, d2, d3, d4, d5] => { results := [.lit (.bool false)], args := [d1, d2, d3, d4, d5] }
  | _ => none }
def WalkFillsWrongFalsely : Prop := walkFillsRow.holds Tryz.pinned (OpenSpec.ofChange walkFillsWrong)

/-- 'semispacelaw09.AuditChecks': WHATEVER THE INPUT: true; the input reads as it did. -/
def auditChecksSpec : ChangeSpec := { name := "auditChecks", fn := fun _ => fun
  | [d1, d2, d3] => { results := [.lit (.bool true)], args := [d1, d2, d3] }
  | _ => none }
def auditChecksRow : OpenClaim := { program := "ytolnblaadleknaagreat", sum := "8d3c98fed7c6edfeee96c7bc9deaef9f6e6e5ef9498233ec1144183f08342207", func := "semispace/semispacelaw09.AuditChecks", spec := "auditChecks", unfollowed := true, recurses := true, apart := false }
def AuditChecksSaid : Prop := auditChecksRow.holds Tryz.pinned (OpenSpec.ofChange auditChecksSpec)

/-- ITS FALSE NEIGHBOUR: 'it returns false'. Refute it at one input. -/
def auditChecksWrong : ChangeSpec := { name := "auditChecks", fn := fun _ => fun
  | [d1, d2, d3] => { results := [.lit (.bool false)], args := [d1, d2, d3] }
  | _ => none }
def AuditChecksWrongFalsely : Prop := auditChecksRow.holds Tryz.pinned (OpenSpec.ofChange auditChecksWrong)

/-- 'semispacelaw08.GraphOrders': WHATEVER THE INPUT: true; the input reads as it did. -/
def graphOrdersSpec : ChangeSpec := { name := "graphOrders", fn := fun _ => fun
  | [d1, d2, d3, d4, d5] => { results := [.lit (.bool true)], args := [d1, d2, d3, d4, d5] }
  | _ => none }
def graphOrdersRow : OpenClaim := { program := "ytolnblaadleknaagreat", sum := "8d3c98fed7c6edfeee96c7bc9deaef9f6e6e5ef9498233ec1144183f08342207", func := "semispace/semispacelaw08.GraphOrders", spec := "graphOrders", unfollowed := true, recurses := true, apart := false }
def GraphOrdersSaid : Prop := graphOrdersRow.holds Tryz.pinned (OpenSpec.ofChange graphOrdersSpec)

/-- ITS FALSE NEIGHBOUR: 'it returns false'. Refute it at one input. -/
def graphOrdersWrong : ChangeSpec := { name := "graphOrders", fn := fun _ => fun
  | [d1, d2, d3, d4, d5] => { results := [.lit (.bool false)], args := [d1, d2, d3, d4, d5] }
  | _ => none }
def GraphOrdersWrongFalsely : Prop := graphOrdersRow.holds Tryz.pinned (OpenSpec.ofChange graphOrdersWrong)

/-- 'semispacelaw09.AuditRefers': WHATEVER THE INPUT: true; the input reads as it did. -/
def auditRefersSpec : ChangeSpec := { name := "auditRefers", fn := fun _ => fun
  | [d1, d2, d3, d4] => { results := [.lit (.bool true)], args := [d1, d2, d3, d4] }
  | _ => none }
def auditRefersRow : OpenClaim := { program := "ytolnblaadleknaagreat", sum := "8d3c98fed7c6edfeee96c7bc9deaef9f6e6e5ef9498233ec1144183f08342207", func := "semispace/semispacelaw09.AuditRefers", spec := "auditRefers", unfollowed := true, recurses := true, apart := false }
def AuditRefersSaid : Prop := auditRefersRow.holds Tryz.pinned (OpenSpec.ofChange auditRefersSpec)

/-- ITS FALSE NEIGHBOUR: 'it returns false'. Refute it at one input. -/
def auditRefersWrong : ChangeSpec := { name := "auditRefers", fn := fun _ => fun
  | [d1, d2, d3, d4] => { results := [.lit (.bool false)], args := [d1, d2, d3, d4] }
  | _ => none }
def AuditRefersWrongFalsely : Prop := auditRefersRow.holds Tryz.pinned (OpenSpec.ofChange auditRefersWrong)

/-- 'semispacelaw10.EvacuateBegins': WHATEVER THE INPUT: true; the input reads as it did. -/
def evacuateBeginsSpec : ChangeSpec := { name := "evacuateBegins", fn := fun _ => fun
  | [d1, d2, d3] => { results := [.lit (.bool true)], args := [d1, d2, d3] }
  | _ => none }
def evacuateBeginsRow : OpenClaim := { program := "ytolnblaadleknaagreat", sum := "8d3c98fed7c6edfeee96c7bc9deaef9f6e6e5ef9498233ec1144183f08342207", func := "semispace/semispacelaw10.EvacuateBegins", spec := "evacuateBegins", unfollowed := true, recurses := true, apart := false }
def EvacuateBeginsSaid : Prop := evacuateBeginsRow.holds Tryz.pinned (OpenSpec.ofChange evacuateBeginsSpec)

/-- ITS FALSE NEIGHBOUR: 'it returns false'. Refute it at one input. -/
def evacuateBeginsWrong : ChangeSpec := { name := "evacuateBegins", fn := fun _ => fun
  | [d1, d2, d3] => { results := [.lit (.bool false)], args := [d1, d2, d3] }
  | _ => none }
def EvacuateBeginsWrongFalsely : Prop := evacuateBeginsRow.holds Tryz.pinned (OpenSpec.ofChange evacuateBeginsWrong)

/-- 'semispacelaw10.EvacuateForwards': WHATEVER THE INPUT: true; the input reads as it did. -/
def evacuateForwardsSpec : ChangeSpec := { name := "evacuateForwards", fn := fun _ => fun
  | [d1, d2, d3] => { results := [.lit (.bool true)], args := [d1, d2, d3] }
  | _ => none }
def evacuateForwardsRow : OpenClaim := { program := "ytolnblaadleknaagreat", sum := "8d3c98fed7c6edfeee96c7bc9deaef9f6e6e5ef9498233ec1144183f08342207", func := "semispace/semispacelaw10.EvacuateForwards", spec := "evacuateForwards", unfollowed := true, recurses := true, apart := false }
def EvacuateForwardsSaid : Prop := evacuateForwardsRow.holds Tryz.pinned (OpenSpec.ofChange evacuateForwardsSpec)

/-- ITS FALSE NEIGHBOUR: 'it returns false'. Refute it at one input. -/
def evacuateForwardsWrong : ChangeSpec := { name := "evacuateForwards", fn := fun _ => fun
  | [d1, d2, d3] => { results := [.lit (.bool false)], args := [d1, d2, d3] }
  | _ => none }
def EvacuateForwardsWrongFalsely : Prop := evacuateForwardsRow.holds Tryz.pinned (OpenSpec.ofChange evacuateForwardsWrong)

/-- 'semispacelaw12.CollectHeaps': WHATEVER THE INPUT: true; the input reads as it did. -/
def collectHeapsSpec : ChangeSpec := { name := "collectHeaps", fn := fun _ => fun
  | [d1, d2, d3, d4, d5] => { results := [.lit (.bool true)], args := [d1, d2, d3, d4, d5] }
  | _ => none }
def collectHeapsRow : OpenClaim := { program := "ytolnblaadleknaagreat", sum := "8d3c98fed7c6edfeee96c7bc9deaef9f6e6e5ef9498233ec1144183f08342207", func := "semispace/semispacelaw12.CollectHeaps", spec := "collectHeaps", unfollowed := true, recurses := true, apart := false }
def CollectHeapsSaid : Prop := collectHeapsRow.holds Tryz.pinned (OpenSpec.ofChange collectHeapsSpec)

/-- ITS FALSE NEIGHBOUR: 'it returns false'. Refute it at one input. -/
def collectHeapsWrong : ChangeSpec := { name := "collectHeaps", fn := fun _ => fun
  | [d1, d2, d3, d4, d5] => { results := [.lit (.bool false)], args := [d1, d2, d3, d4, d5] }
  | _ => none }
def CollectHeapsWrongFalsely : Prop := collectHeapsRow.holds Tryz.pinned (OpenSpec.ofChange collectHeapsWrong)

/-- 'semispacelaw13.BoundMeasures': WHATEVER THE INPUT: true; the input reads as it did. -/
def boundMeasuresSpec : ChangeSpec := { name := "boundMeasures", fn := fun _ => fun
  | [d1, d2, d3, d4] => { results := [.lit (.bool true)], args := [d1, d2, d3, d4] }
  | _ => none }
def boundMeasuresRow : OpenClaim := { program := "ytolnblaadleknaagreat", sum := "8d3c98fed7c6edfeee96c7bc9deaef9f6e6e5ef9498233ec1144183f08342207", func := "semispace/semispacelaw13.BoundMeasures", spec := "boundMeasures", unfollowed := true, recurses := true, apart := false }
def BoundMeasuresSaid : Prop := boundMeasuresRow.holds Tryz.pinned (OpenSpec.ofChange boundMeasuresSpec)

/-- ITS FALSE NEIGHBOUR: 'it returns false'. Refute it at one input. -/
def boundMeasuresWrong : ChangeSpec := { name := "boundMeasures", fn := fun _ => fun
  | [d1, d2, d3, d4] => { results := [.lit (.bool false)], args := [d1, d2, d3, d4] }
  | _ => none }
def BoundMeasuresWrongFalsely : Prop := boundMeasuresRow.holds Tryz.pinned (OpenSpec.ofChange boundMeasuresWrong)

/- THE SECOND FORM. 'bulk': how many values and letters a reading holds, each counted each time it is reached (what is shared counts as often as it is met; a slice's spare places count too). A statement '..UptoSaid' is the law's where the arguments, and the package variables that the reading takes, are together of bulk at most 1048576: NARROWER than '..Said'. Prove '..Said' where nothing that the law and all that it calls make is longer than what came in: it says more and counts as full. Else prove '..UptoSaid'. A law counts once. -/
mutual
def uptoBulk {H : Type} : DataW H → Nat
  | .lit (.string bytes) => bytes.length + 1
  | .lit _ => 1
  | .nil => 1
  | .ptr d => uptoBulk d + 1
  | .slice elems spare => uptoBulkAll elems + uptoBulkAll spare + 1
  | .agg parts => uptoBulkAll parts + 1
  | .iface _ d => uptoBulk d + 1
  | .map entries => uptoBulkEntries entries + 1
  | .held _ => 1
def uptoBulkAll {H : Type} : List (DataW H) → Nat
  | [] => 0
  | d :: r => uptoBulk d + uptoBulkAll r
def uptoBulkEntries {H : Type} : List (Lit × DataW H) → Nat
  | [] => 0
  | x :: r => uptoBulkEntry x + uptoBulkEntries r
def uptoBulkEntry {H : Type} : Lit × DataW H → Nat
  | (.string bytes, d) => bytes.length + uptoBulk d + 1
  | (_, d) => uptoBulk d + 1
 end
def uptoSmall : (H : Type) → List (DataW H) → Bool := fun _ ds => decide (uptoBulkAll ds ≤ 1048576)
def OpenSpec.upto (s : _root_.Go.ChangeSpec) : _root_.Go.OpenSpec := { _root_.Go.OpenSpec.ofChange s with cond := some uptoSmall }

/-- 'semispacelaw04.PageGives', WHERE WHAT IT READS IS OF BULK AT MOST 1048576: true; the input reads as it did. -/
def pageGivesUptoRow : OpenClaim := { program := "ytolnblaadleknaagreat", sum := "8d3c98fed7c6edfeee96c7bc9deaef9f6e6e5ef9498233ec1144183f08342207", func := "semispace/semispacelaw04.PageGives", spec := "pageGives", unfollowed := true, recurses := true, apart := false, narrowed := true }
def PageGivesUptoSaid : Prop := pageGivesUptoRow.holds Tryz.pinned (OpenSpec.upto pageGivesSpec)

/-- 'semispacelaw06.WalkCounts', WHERE WHAT IT READS IS OF BULK AT MOST 1048576: true; the input reads as it did. -/
def walkCountsUptoRow : OpenClaim := { program := "ytolnblaadleknaagreat", sum := "8d3c98fed7c6edfeee96c7bc9deaef9f6e6e5ef9498233ec1144183f08342207", func := "semispace/semispacelaw06.WalkCounts", spec := "walkCounts", unfollowed := true, recurses := true, apart := false, narrowed := true }
def WalkCountsUptoSaid : Prop := walkCountsUptoRow.holds Tryz.pinned (OpenSpec.upto walkCountsSpec)

/-- 'semispacelaw06.WalkPages', WHERE WHAT IT READS IS OF BULK AT MOST 1048576: true; the input reads as it did. -/
def walkPagesUptoRow : OpenClaim := { program := "ytolnblaadleknaagreat", sum := "8d3c98fed7c6edfeee96c7bc9deaef9f6e6e5ef9498233ec1144183f08342207", func := "semispace/semispacelaw06.WalkPages", spec := "walkPages", unfollowed := true, recurses := true, apart := false, narrowed := true }
def WalkPagesUptoSaid : Prop := walkPagesUptoRow.holds Tryz.pinned (OpenSpec.upto walkPagesSpec)

/-- 'semispacelaw06.WalkObjects', WHERE WHAT IT READS IS OF BULK AT MOST 1048576: true; the input reads as it did. -/
def walkObjectsUptoRow : OpenClaim := { program := "ytolnblaadleknaagreat", sum := "8d3c98fed7c6edfeee96c7bc9deaef9f6e6e5ef9498233ec1144183f08342207", func := "semispace/semispacelaw06.WalkObjects", spec := "walkObjects", unfollowed := true, recurses := true, apart := false, narrowed := true }
def WalkObjectsUptoSaid : Prop := walkObjectsUptoRow.holds Tryz.pinned (OpenSpec.upto walkObjectsSpec)

/-- 'semispacelaw06.WalkFills', WHERE WHAT IT READS IS OF BULK AT MOST 1048576: true; the input reads as it did. -/
def walkFillsUptoRow : OpenClaim := { program := "ytolnblaadleknaagreat", sum := "8d3c98fed7c6edfeee96c7bc9deaef9f6e6e5ef9498233ec1144183f08342207", func := "semispace/semispacelaw06.WalkFills", spec := "walkFills", unfollowed := true, recurses := true, apart := false, narrowed := true }
def WalkFillsUptoSaid : Prop := walkFillsUptoRow.holds Tryz.pinned (OpenSpec.upto walkFillsSpec)

/-- 'semispacelaw09.AuditChecks', WHERE WHAT IT READS IS OF BULK AT MOST 1048576: true; the input reads as it did. -/
def auditChecksUptoRow : OpenClaim := { program := "ytolnblaadleknaagreat", sum := "8d3c98fed7c6edfeee96c7bc9deaef9f6e6e5ef9498233ec1144183f08342207", func := "semispace/semispacelaw09.AuditChecks", spec := "auditChecks", unfollowed := true, recurses := true, apart := false, narrowed := true }
def AuditChecksUptoSaid : Prop := auditChecksUptoRow.holds Tryz.pinned (OpenSpec.upto auditChecksSpec)

/-- 'semispacelaw08.GraphOrders', WHERE WHAT IT READS IS OF BULK AT MOST 1048576: true; the input reads as it did. -/
def graphOrdersUptoRow : OpenClaim := { program := "ytolnblaadleknaagreat", sum := "8d3c98fed7c6edfeee96c7bc9deaef9f6e6e5ef9498233ec1144183f08342207", func := "semispace/semispacelaw08.GraphOrders", spec := "graphOrders", unfollowed := true, recurses := true, apart := false, narrowed := true }
def GraphOrdersUptoSaid : Prop := graphOrdersUptoRow.holds Tryz.pinned (OpenSpec.upto graphOrdersSpec)

/-- 'semispacelaw09.AuditRefers', WHERE WHAT IT READS IS OF BULK AT MOST 1048576: true; the input reads as it did. -/
def auditRefersUptoRow : OpenClaim := { program := "ytolnblaadleknaagreat", sum := "8d3c98fed7c6edfeee96c7bc9deaef9f6e6e5ef9498233ec1144183f08342207", func := "semispace/semispacelaw09.AuditRefers", spec := "auditRefers", unfollowed := true, recurses := true, apart := false, narrowed := true }
def AuditRefersUptoSaid : Prop := auditRefersUptoRow.holds Tryz.pinned (OpenSpec.upto auditRefersSpec)

/-- 'semispacelaw10.EvacuateBegins', WHERE WHAT IT READS IS OF BULK AT MOST 1048576: true; the input reads as it did. -/
def evacuateBeginsUptoRow : OpenClaim := { program := "ytolnblaadleknaagreat", sum := "8d3c98fed7c6edfeee96c7bc9deaef9f6e6e5ef9498233ec1144183f08342207", func := "semispace/semispacelaw10.EvacuateBegins", spec := "evacuateBegins", unfollowed := true, recurses := true, apart := false, narrowed := true }
def EvacuateBeginsUptoSaid : Prop := evacuateBeginsUptoRow.holds Tryz.pinned (OpenSpec.upto evacuateBeginsSpec)

/-- 'semispacelaw10.EvacuateForwards', WHERE WHAT IT READS IS OF BULK AT MOST 1048576: true; the input reads as it did. -/
def evacuateForwardsUptoRow : OpenClaim := { program := "ytolnblaadleknaagreat", sum := "8d3c98fed7c6edfeee96c7bc9deaef9f6e6e5ef9498233ec1144183f08342207", func := "semispace/semispacelaw10.EvacuateForwards", spec := "evacuateForwards", unfollowed := true, recurses := true, apart := false, narrowed := true }
def EvacuateForwardsUptoSaid : Prop := evacuateForwardsUptoRow.holds Tryz.pinned (OpenSpec.upto evacuateForwardsSpec)

/-- 'semispacelaw12.CollectHeaps', WHERE WHAT IT READS IS OF BULK AT MOST 1048576: true; the input reads as it did. -/
def collectHeapsUptoRow : OpenClaim := { program := "ytolnblaadleknaagreat", sum := "8d3c98fed7c6edfeee96c7bc9deaef9f6e6e5ef9498233ec1144183f08342207", func := "semispace/semispacelaw12.CollectHeaps", spec := "collectHeaps", unfollowed := true, recurses := true, apart := false, narrowed := true }
def CollectHeapsUptoSaid : Prop := collectHeapsUptoRow.holds Tryz.pinned (OpenSpec.upto collectHeapsSpec)

/-- 'semispacelaw13.BoundMeasures', WHERE WHAT IT READS IS OF BULK AT MOST 1048576: true; the input reads as it did. -/
def boundMeasuresUptoRow : OpenClaim := { program := "ytolnblaadleknaagreat", sum := "8d3c98fed7c6edfeee96c7bc9deaef9f6e6e5ef9498233ec1144183f08342207", func := "semispace/semispacelaw13.BoundMeasures", spec := "boundMeasures", unfollowed := true, recurses := true, apart := false, narrowed := true }
def BoundMeasuresUptoSaid : Prop := boundMeasuresUptoRow.holds Tryz.pinned (OpenSpec.upto boundMeasuresSpec)

end Rows
end Go.Proofs.YtolnblaadleknaaGreat
