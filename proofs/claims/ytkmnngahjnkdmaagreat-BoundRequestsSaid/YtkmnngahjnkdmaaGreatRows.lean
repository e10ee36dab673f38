/-
  No cell of these rows narrows 'for every input' (looked for: loops, veiled, ifaces, maps, wideKeys, modest, calm, conditions, laid).
  DERIVED. THE GIVEN ROWS OF THIS SEAT. 4 by the template 'for every input the law returns true; each argument reads behind the call as it read before'; 0 by the template 'total and deterministic' (their statements: YtkmnngahjnkdmaaGreatTotals.lean).
  GIVEN WITH THE SEED: the statements are not yours to turn. If you find one false, say at which input.
  Laid BY PROGRAM, IN A SANDBOX (cutbox-rows.mjs): the forced cells as the released guide's own fill.sh prints them over the translation e50a9ea7315795bb… (all of the seat's roots in one cut). By AI agents, Wed Nov 11 2026. No macro, syntax, notation, axiom, sorry.
-/
import Derived.Test.YtkmnngahjnkdmaaGreatChecked
import GoSem.Claim
import GoSem.ClaimJoined
import GoSem.ClaimMapViews
import Derived.JoinedTies
import Derived.KernelRfl
namespace Go.Proofs.YtkmnngahjnkdmaaGreat
/- THE CELL 'sum', in the pinned program and in every row, IS THE sha256 OF THE DUMP (.gsa) THAT YtkmnngahjnkdmaaGreatProg.lean LOADS. Nothing in Lean hashes anything: it is a label: what it is worth is what the hold of that sum in a sandbox is worth. -/
noncomputable def Tryz.pinned : Pinned := { name := "ytkmnngahjnkdmaagreat", sum := "e50a9ea7315795bb281b241ae19381c93c9e545b2517475d4214de0a88b97bd5", checked := Tryz.checked }
namespace Rows
def none {H : Type} : Left H := { results := [], args := [] }

/-- 'semispacelaw13.BoundRequests': WHATEVER THE INPUT: true; the input reads as it did. -/
def boundRequestsSpec : ChangeSpec := { name := "boundRequests", fn := fun _ => fun
  | [d1, d2, d3, d4, d5, d6] => { results := [.lit (.bool true)], args := [d1, d2, d3, d4, d5, d6] }
  | _ => none }
def boundRequestsRow : OpenClaim := { program := "ytkmnngahjnkdmaagreat", sum := "e50a9ea7315795bb281b241ae19381c93c9e545b2517475d4214de0a88b97bd5", func := "semispace/semispacelaw13.BoundRequests", spec := "boundRequests", unfollowed := true, recurses := true, apart := false }
def BoundRequestsSaid : Prop := boundRequestsRow.holds Tryz.pinned (OpenSpec.ofChange boundRequestsSpec)

/-- ITS FALSE NEIGHBOUR: 'it returns false'. Refute it at one input. -/
def boundRequestsWrong : ChangeSpec := { name := "boundRequests", fn := fun _ => fun
  | [d1, d2, d3, d4, d5, d6] => { results := [.lit (.bool false)], args := [d1, d2, d3, d4, d5, d6] }
  | _ => none }
def BoundRequestsWrongFalsely : Prop := boundRequestsRow.holds Tryz.pinned (OpenSpec.ofChange boundRequestsWrong)

/-- 'semispacelaw13.BoundKeeps': WHATEVER THE INPUT: true; the input reads as it did. -/
def boundKeepsSpec : ChangeSpec := { name := "boundKeeps", fn := fun _ => fun
  | [d1, d2] => { results := [.lit (.bool true)], args := [d1, d2] }
  | _ => none }
def boundKeepsRow : OpenClaim := { program := "ytkmnngahjnkdmaagreat", sum := "e50a9ea7315795bb281b241ae19381c93c9e545b2517475d4214de0a88b97bd5", func := "semispace/semispacelaw13.BoundKeeps", spec := "boundKeeps", unfollowed := true, recurses := true, apart := false }
def BoundKeepsSaid : Prop := boundKeepsRow.holds Tryz.pinned (OpenSpec.ofChange boundKeepsSpec)

/-- ITS FALSE NEIGHBOUR: 'it returns false'. Refute it at one input. -/
def boundKeepsWrong : ChangeSpec := { name := "boundKeeps", fn := fun _ => fun
  | [d1, d2] => { results := [.lit (.bool false)], args := [d1, d2] }
  | _ => none }
def BoundKeepsWrongFalsely : Prop := boundKeepsRow.holds Tryz.pinned (OpenSpec.ofChange boundKeepsWrong)

/-- 'semispacelaw13.BoundSure': WHATEVER THE INPUT: true; the input reads as it did. -/
def boundSureSpec : ChangeSpec := { name := "boundSure", fn := fun _ => fun
  | [d1, d2] => { results := [.lit (.bool true)], args := [d1, d2] }
  | _ => none }
def boundSureRow : OpenClaim := { program := "ytkmnngahjnkdmaagreat", sum := "e50a9ea7315795bb281b241ae19381c93c9e545b2517475d4214de0a88b97bd5", func := "semispace/semispacelaw13.BoundSure", spec := "boundSure", unfollowed := true, recurses := true, apart := false }
def BoundSureSaid : Prop := boundSureRow.holds Tryz.pinned (OpenSpec.ofChange boundSureSpec)

/-- ITS FALSE NEIGHBOUR: 'it returns false'. Refute it at one input. -/
def boundSureWrong : ChangeSpec := { name := "boundSure", fn := fun _ => fun
  | [d1, d2] => { results := [.lit (.bool false)], args := [d1, d2] }
  | _ => none }
def BoundSureWrongFalsely : Prop := boundSureRow.holds Tryz.pinned (OpenSpec.ofChange boundSureWrong)

/-- 'semispacelaw13.BoundAfter': WHATEVER THE INPUT: true; the input reads as it did. -/
def boundAfterSpec : ChangeSpec := { name := "boundAfter", fn := fun _ => fun
  | [d1, d2] => { results := [.lit (.bool true)], args := [d1, d2] }
  | _ => none }
def boundAfterRow : OpenClaim := { program := "ytkmnngahjnkdmaagreat", sum := "e50a9ea7315795bb281b241ae19381c93c9e545b2517475d4214de0a88b97bd5", func := "semispace/semispacelaw13.BoundAfter", spec := "boundAfter", unfollowed := true, recurses := true, apart := false }
def BoundAfterSaid : Prop := boundAfterRow.holds Tryz.pinned (OpenSpec.ofChange boundAfterSpec)

/-- ITS FALSE NEIGHBOUR: 'it returns false'. Refute it at one input. -/
def boundAfterWrong : ChangeSpec := { name := "boundAfter", fn := fun _ => fun
  | [d1, d2] => { results := [.lit (.bool false)], args := [d1, d2] }
  | _ => none }
def BoundAfterWrongFalsely : Prop := boundAfterRow.holds Tryz.pinned (OpenSpec.ofChange boundAfterWrong)

/- THE SECOND FORM. 'bulk': how many values and letters a reading holds, each counted each time it is reached (what is shared counts as often as it is met; a slice's spare places count too). A statement '..UptoSaid' is the law's where the arguments, and the package variables that the reading takes, are together of bulk at most 1048576: NARROWER than '..Said'. Prove '..Said' where nothing that the law and all that it calls make is longer than what came in: it says more and counts as full. Else prove '..UptoSaid'. A law counts once. -/
mutual
def uptoBulk {H : Type} : DataW H → Nat
  | .lit (.string bytes) => bytes.length + 1
  | .lit _ => 1
  | .nil => 1
  | .ptr d => uptoBulk d + 1
  | .slice elems spare => uptoBulkAll elems + uptoBulkAll spare + 1
  | .agg parts => uptoBulkAll parts + 1
  | .iface _ d => uptoBulk d + 1
  | .map entries => uptoBulkEntries entries + 1
  | .held _ => 1
def uptoBulkAll {H : Type} : List (DataW H) → Nat
  | [] => 0
  | d :: r => uptoBulk d + uptoBulkAll r
def uptoBulkEntries {H : Type} : List (Lit × DataW H) → Nat
  | [] => 0
  | x :: r => uptoBulkEntry x + uptoBulkEntries r
def uptoBulkEntry {H : Type} : Lit × DataW H → Nat
  | (.string bytes, d) => bytes.length + uptoBulk d + 1
  | (_, d) => uptoBulk d + 1
 end
def uptoSmall : (H : Type) → List (DataW H) → Bool := fun _ ds => decide (uptoBulkAll ds ≤ 1048576)
def OpenSpec.upto (s : _root_.Go.ChangeSpec) : _root_.Go.OpenSpec := { _root_.Go.OpenSpec.ofChange s with cond := some uptoSmall }

/-- 'semispacelaw13.BoundRequests', WHERE WHAT IT READS IS OF BULK AT MOST 1048576: true; the input reads as it did. -/
def boundRequestsUptoRow : OpenClaim := { program := "ytkmnngahjnkdmaagreat", sum := "e50a9ea7315795bb281b241ae19381c93c9e545b2517475d4214de0a88b97bd5", func := "semispace/semispacelaw13.BoundRequests", spec := "boundRequests", unfollowed := true, recurses := true, apart := false, narrowed := true }
def BoundRequestsUptoSaid : Prop := boundRequestsUptoRow.holds Tryz.pinned (OpenSpec.upto boundRequestsSpec)

/-- 'semispacelaw13.BoundKeeps', WHERE WHAT IT READS IS OF BULK AT MOST 1048576: true; the input reads as it did. -/
def boundKeepsUptoRow : OpenClaim := { program := "ytkmnngahjnkdmaagreat", sum := "e50a9ea7315795bb281b241ae19381c93c9e545b2517475d4214de0a88b97bd5", func := "semispace/semispacelaw13.BoundKeeps", spec := "boundKeeps", unfollowed := true, recurses := true, apart := false, narrowed := true }
def BoundKeepsUptoSaid : Prop := boundKeepsUptoRow.holds Tryz.pinned (OpenSpec.upto boundKeepsSpec)

/-- 'semispacelaw13.BoundSure', WHERE WHAT IT READS IS OF BULK AT MOST 1048576: true; the input reads as it did. -/
def boundSureUptoRow : OpenClaim := { program := "ytkmnngahjnkdmaagreat", sum := "e50a9ea7315795bb281b241ae19381c93c9e545b2517475d4214de0a88b97bd5", func := "semispace/semispacelaw13.BoundSure", spec := "boundSure", unfollowed := true, recurses := true, apart := false, narrowed := true }
def BoundSureUptoSaid : Prop := boundSureUptoRow.holds Tryz.pinned (OpenSpec.upto boundSureSpec)

/-- 'semispacelaw13.BoundAfter', WHERE WHAT IT READS IS OF BULK AT MOST 1048576: true; the input reads as it did. -/
def boundAfterUptoRow : OpenClaim := { program := "ytkmnngahjnkdmaagreat", sum := "e50a9ea7315795bb281b241ae19381c93c9e545b2517475d4214de0a88b97bd5", func := "semispace/semispacelaw13.BoundAfter", spec := "boundAfter", unfollowed := true, recurses := true, apart := false, narrowed := true }
def BoundAfterUptoSaid : Prop := boundAfterUptoRow.holds Tryz.pinned (OpenSpec.upto boundAfterSpec)

end Rows
end Go.Proofs.YtkmnngahjnkdmaaGreat
