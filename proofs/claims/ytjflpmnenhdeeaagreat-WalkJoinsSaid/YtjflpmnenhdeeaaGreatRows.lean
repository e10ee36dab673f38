/-
  No cell of these rows narrows 'for every input' (looked for: loops, veiled, ifaces, maps, wideKeys, modest, calm, conditions, laid).
  DERIVED. THE GIVEN ROWS OF THIS SEAT. 5 by the template 'for every input the law returns true; each argument reads behind the call as it read before'; 0 by the template 'total and deterministic' (their statements: YtjflpmnenhdeeaaGreatTotals.lean).
  GIVEN WITH THE SEED: the statements are not yours to turn. If you find one false, say at which input.
  Laid BY PROGRAM, IN A SANDBOX (cutbox-rows.mjs): the forced cells as the released guide's own fill.sh prints them over the translation 1fc515fb0b816c35… (all of the seat's roots in one cut). By AI agents, Wed Nov 11 2026. No macro, syntax, notation, axiom, sorry.
-/
import Derived.Test.YtjflpmnenhdeeaaGreatChecked
import GoSem.Claim
import GoSem.ClaimJoined
import GoSem.ClaimMapViews
import Derived.JoinedTies
import Derived.KernelRfl
namespace Go.Proofs.YtjflpmnenhdeeaaGreat
/- THE CELL 'sum', in the pinned program and in every row, IS THE sha256 OF THE DUMP (.gsa) THAT YtjflpmnenhdeeaaGreatProg.lean LOADS. Nothing in Lean hashes anything: it is a label: what it is worth is what the hold of that sum in a sandbox is worth. -/
noncomputable def Tryz.pinned : Pinned := { name := "ytjflpmnenhdeeaagreat", sum := "1fc515fb0b816c35ff3332d4af7792c7cb95a5330375f7bc678c6facff84b8fe", checked := Tryz.checked }
namespace Rows
def none {H : Type} : Left H := { results := [], args := [] }

/-- 'semispacelaw07.AllocKeeps': WHATEVER THE INPUT: true; the input reads as it did. -/
def allocKeepsSpec : ChangeSpec := { name := "allocKeeps", fn := fun _ => fun
  | [d1, d2] => { results := [.lit (.bool true)], args := [d1, d2] }
  | _ => none }
def allocKeepsRow : OpenClaim := { program := "ytjflpmnenhdeeaagreat", sum := "1fc515fb0b816c35ff3332d4af7792c7cb95a5330375f7bc678c6facff84b8fe", func := "semispace/semispacelaw07.AllocKeeps", spec := "allocKeeps", unfollowed := true, recurses := true, apart := false }
def AllocKeepsSaid : Prop := allocKeepsRow.holds Tryz.pinned (OpenSpec.ofChange allocKeepsSpec)

/-- ITS FALSE NEIGHBOUR: 'it returns false'. Refute it at one input. -/
def allocKeepsWrong : ChangeSpec := { name := "allocKeeps", fn := fun _ => fun
  | [d1, d2] => { results := [.lit (.bool false)], args := [d1, d2] }
  | _ => none }
def AllocKeepsWrongFalsely : Prop := allocKeepsRow.holds Tryz.pinned (OpenSpec.ofChange allocKeepsWrong)

/-- 'semispacelaw06.WalkCovers': WHATEVER THE INPUT: true; the input reads as it did. -/
def walkCoversSpec : ChangeSpec := { name := "walkCovers", fn := fun _ => fun
  | [d] => { results := [.lit (.bool true)], args := [d] }
  | _ => none }
def walkCoversRow : OpenClaim := { program := "ytjflpmnenhdeeaagreat", sum := "1fc515fb0b816c35ff3332d4af7792c7cb95a5330375f7bc678c6facff84b8fe", func := "semispace/semispacelaw06.WalkCovers", spec := "walkCovers", unfollowed := true, recurses := true, apart := false }
def WalkCoversSaid : Prop := walkCoversRow.holds Tryz.pinned (OpenSpec.ofChange walkCoversSpec)

/-- ITS FALSE NEIGHBOUR: 'it returns false'. Refute it at one input. -/
def walkCoversWrong : ChangeSpec := { name := "walkCovers", fn := fun _ => fun
  | [d] => { results := [.lit (.bool false)], args := [d] }
  | _ => none }
def WalkCoversWrongFalsely : Prop := walkCoversRow.holds Tryz.pinned (OpenSpec.ofChange walkCoversWrong)

/-- 'semispacelaw06.WalkJoins': WHATEVER THE INPUT: true; the input reads as it did. -/
def walkJoinsSpec : ChangeSpec := { name := "walkJoins", fn := fun _ => fun
  | [d1, d2] => { results := [.lit (.bool true)], args := [d1, d2] }
  | _ => none }
def walkJoinsRow : OpenClaim := { program := "ytjflpmnenhdeeaagreat", sum := "1fc515fb0b816c35ff3332d4af7792c7cb95a5330375f7bc678c6facff84b8fe", func := "semispace/semispacelaw06.WalkJoins", spec := "walkJoins", unfollowed := true, recurses := true, apart := false }
def WalkJoinsSaid : Prop := walkJoinsRow.holds Tryz.pinned (OpenSpec.ofChange walkJoinsSpec)

/-- ITS FALSE NEIGHBOUR: 'it returns false'. Refute it at one input. -/
def walkJoinsWrong : ChangeSpec := { name := "walkJoins", fn := fun _ => fun
  | [d1, d2] => { results := [.lit (.bool false)], args := [d1, d2] }
  | _ => none }
def WalkJoinsWrongFalsely : Prop := walkJoinsRow.holds Tryz.pinned (OpenSpec.ofChange walkJoinsWrong)

/-- 'semispacelaw09.AuditDirt': WHATEVER THE INPUT: true; the input reads as it did. -/
def auditDirtSpec : ChangeSpec := { name := "auditDirt", fn := fun _ => fun
  | [d1, d2, d3, d4] => { results := [.lit (.bool true)], args := [d1, d2, d3, d4] }
  | _ => none }
def auditDirtRow : OpenClaim := { program := "ytjflpmnenhdeeaagreat", sum := "1fc515fb0b816c35ff3332d4af7792c7cb95a5330375f7bc678c6facff84b8fe", func := "semispace/semispacelaw09.AuditDirt", spec := "auditDirt", unfollowed := true, recurses := true, apart := false }
def AuditDirtSaid : Prop := auditDirtRow.holds Tryz.pinned (OpenSpec.ofChange auditDirtSpec)

/-- ITS FALSE NEIGHBOUR: 'it returns false'. Refute it at one input. -/
def auditDirtWrong : ChangeSpec := { name := "auditDirt", fn := fun _ => fun
  | [d1, d2, d3, d4] => { results := [.lit (.bool false)], args := [d1, d2, d3, d4] }
  | _ => none }
def AuditDirtWrongFalsely : Prop := auditDirtRow.holds Tryz.pinned (OpenSpec.ofChange auditDirtWrong)

/-- 'semispacelaw09.AuditMade': WHATEVER THE INPUT: true; the input reads as it did. -/
def auditMadeSpec : ChangeSpec := { name := "auditMade", fn := fun _ => fun
  | [d] => { results := [.lit (.bool true)], args := [d] }
  | _ => none }
def auditMadeRow : OpenClaim := { program := "ytjflpmnenhdeeaagreat", sum := "1fc515fb0b816c35ff3332d4af7792c7cb95a5330375f7bc678c6facff84b8fe", func := "semispace/semispacelaw09.AuditMade", spec := "auditMade", unfollowed := true, recurses := true, apart := false }
def AuditMadeSaid : Prop := auditMadeRow.holds Tryz.pinned (OpenSpec.ofChange auditMadeSpec)

/-- ITS FALSE NEIGHBOUR: 'it returns false'. Refute it at one input. -/
def auditMadeWrong : ChangeSpec := { name := "auditMade", fn := fun _ => fun
  | [d] => { results := [.lit (.bool false)], args := [d] }
  | _ => none }
def AuditMadeWrongFalsely : Prop := auditMadeRow.holds Tryz.pinned (OpenSpec.ofChange auditMadeWrong)

/- THE SECOND FORM. 'bulk': how many values and letters a reading holds, each counted each time it is reached (what is shared counts as often as it is met; a slice's spare places count too). A statement '..UptoSaid' is the law's where the arguments, and the package variables that the reading takes, are together of bulk at most 1048576: NARROWER than '..Said'. Prove '..Said' where nothing that the law and all that it calls make is longer than what came in: it says more and counts as full. Else prove '..UptoSaid'. A law counts once. -/
mutual
def uptoBulk {H : Type} : DataW H → Nat
  | .lit (.string bytes) => bytes.length + 1
  | .lit _ => 1
  | .nil => 1
  | .ptr d => uptoBulk d + 1
  | .slice elems spare => uptoBulkAll elems + uptoBulkAll spare + 1
  | .agg parts => uptoBulkAll parts + 1
  | .iface _ d => uptoBulk d + 1
  | .map entries => uptoBulkEntries entries + 1
  | .held _ => 1
def uptoBulkAll {H : Type} : List (DataW H) → Nat
  | [] => 0
  | d :: r => uptoBulk d + uptoBulkAll r
def uptoBulkEntries {H : Type} : List (Lit × DataW H) → Nat
  | [] => 0
  | x :: r => uptoBulkEntry x + uptoBulkEntries r
def uptoBulkEntry {H : Type} : Lit × DataW H → Nat
  | (.string bytes, d) => bytes.length + uptoBulk d + 1
  | (_, d) => uptoBulk d + 1
 end
def uptoSmall : (H : Type) → List (DataW H) → Bool := fun _ ds => decide (uptoBulkAll ds ≤ 1048576)
def OpenSpec.upto (s : _root_.Go.ChangeSpec) : _root_.Go.OpenSpec := { _root_.Go.OpenSpec.ofChange s with cond := some uptoSmall }

/-- 'semispacelaw07.AllocKeeps', WHERE WHAT IT READS IS OF BULK AT MOST 1048576: true; the input reads as it did. -/
def allocKeepsUptoRow : OpenClaim := { program := "ytjflpmnenhdeeaagreat", sum := "1fc515fb0b816c35ff3332d4af7792c7cb95a5330375f7bc678c6facff84b8fe", func := "semispace/semispacelaw07.AllocKeeps", spec := "allocKeeps", unfollowed := true, recurses := true, apart := false, narrowed := true }
def AllocKeepsUptoSaid : Prop := allocKeepsUptoRow.holds Tryz.pinned (OpenSpec.upto allocKeepsSpec)

/-- 'semispacelaw06.WalkCovers', WHERE WHAT IT READS IS OF BULK AT MOST 1048576: true; the input reads as it did. -/
def walkCoversUptoRow : OpenClaim := { program := "ytjflpmnenhdeeaagreat", sum := "1fc515fb0b816c35ff3332d4af7792c7cb95a5330375f7bc678c6facff84b8fe", func := "semispace/semispacelaw06.WalkCovers", spec := "walkCovers", unfollowed := true, recurses := true, apart := false, narrowed := true }
def WalkCoversUptoSaid : Prop := walkCoversUptoRow.holds Tryz.pinned (OpenSpec.upto walkCoversSpec)

/-- 'semispacelaw06.WalkJoins', WHERE WHAT IT READS IS OF BULK AT MOST 1048576: true; the input reads as it did. -/
def walkJoinsUptoRow : OpenClaim := { program := "ytjflpmnenhdeeaagreat", sum := "1fc515fb0b816c35ff3332d4af7792c7cb95a5330375f7bc678c6facff84b8fe", func := "semispace/semispacelaw06.WalkJoins", spec := "walkJoins", unfollowed := true, recurses := true, apart := false, narrowed := true }
def WalkJoinsUptoSaid : Prop := walkJoinsUptoRow.holds Tryz.pinned (OpenSpec.upto walkJoinsSpec)

/-- 'semispacelaw09.AuditDirt', WHERE WHAT IT READS IS OF BULK AT MOST 1048576: true; the input reads as it did. -/
def auditDirtUptoRow : OpenClaim := { program := "ytjflpmnenhdeeaagreat", sum := "1fc515fb0b816c35ff3332d4af7792c7cb95a5330375f7bc678c6facff84b8fe", func := "semispace/semispacelaw09.AuditDirt", spec := "auditDirt", unfollowed := true, recurses := true, apart := false, narrowed := true }
def AuditDirtUptoSaid : Prop := auditDirtUptoRow.holds Tryz.pinned (OpenSpec.upto auditDirtSpec)

/-- 'semispacelaw09.AuditMade', WHERE WHAT IT READS IS OF BULK AT MOST 1048576: true; the input reads as it did. -/
def auditMadeUptoRow : OpenClaim := { program := "ytjflpmnenhdeeaagreat", sum := "1fc515fb0b816c35ff3332d4af7792c7cb95a5330375f7bc678c6facff84b8fe", func := "semispace/semispacelaw09.AuditMade", spec := "auditMade", unfollowed := true, recurses := true, apart := false, narrowed := true }
def AuditMadeUptoSaid : Prop := auditMadeUptoRow.holds Tryz.pinned (OpenSpec.upto auditMadeSpec)

end Rows
end Go.Proofs.YtjflpmnenhdeeaaGreat
