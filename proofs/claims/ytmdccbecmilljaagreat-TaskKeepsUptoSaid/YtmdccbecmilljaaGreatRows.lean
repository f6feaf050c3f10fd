/-
  No cell of these rows narrows 'for every input' (looked for: loops, veiled, ifaces, maps, wideKeys, modest, calm, conditions, laid).
  DERIVED. THE GIVEN ROWS OF THIS SEAT. 2 by the template 'for every input the law returns true; each argument reads behind the call as it read before'; 0 by the template 'total and deterministic' (their statements: YtmdccbecmilljaaGreatTotals.lean).
  GIVEN WITH THE SEED: the statements are not yours to turn. If you find one false, say at which input.
  Laid BY PROGRAM, IN A SANDBOX (cutbox-rows.mjs): the forced cells as the released guide's own fill.sh prints them over the translation f9c7eeac0244d0b2… (all of the seat's roots in one cut). By AI agents, Wed Nov 11 2026. No macro, syntax, notation, axiom, sorry.
-/
import Derived.Test.YtmdccbecmilljaaGreatChecked
import GoSem.Claim
import GoSem.ClaimJoined
import GoSem.ClaimMapViews
import Derived.JoinedTies
import Derived.KernelRfl
namespace Go.Proofs.YtmdccbecmilljaaGreat
/- THE CELL 'sum', in the pinned program and in every row, IS THE sha256 OF THE DUMP (.gsa) THAT YtmdccbecmilljaaGreatProg.lean LOADS. Nothing in Lean hashes anything: it is a label: what it is worth is what the hold of that sum in a sandbox is worth. -/
noncomputable def Tryz.pinned : Pinned := { name := "ytmdccbecmilljaagreat", sum := "f9c7eeac0244d0b2e9da3d0d68e3e44629dfd984377283e4ef552c2e5c19d2e4", checked := Tryz.checked }
namespace Rows
def none {H : Type} : Left H := { results := [], args := [] }

/-- 'hopperlaw16.TaskKeeps': WHATEVER THE INPUT: true; the input reads as it did. -/
def taskKeepsSpec : ChangeSpec := { name := "taskKeeps", fn := fun _ => fun
  | [d1, d2, d3] => { results := [.lit (.bool true)], args := [d1, d2, d3] }
  | _ => none }
def taskKeepsRow : OpenClaim := { program := "ytmdccbecmilljaagreat", sum := "f9c7eeac0244d0b2e9da3d0d68e3e44629dfd984377283e4ef552c2e5c19d2e4", func := "hopper/hopperlaw16.TaskKeeps", spec := "taskKeeps", inPlace := ["internal/abi.NoEscape", "slices.overlaps[hopper/api.Tx]", "slices.overlaps[hopper/api.Account]"], unfollowed := true, recurses := true, apart := false }
def TaskKeepsSaid : Prop := taskKeepsRow.holds Tryz.pinned (OpenSpec.ofChange taskKeepsSpec)

/-- ITS FALSE NEIGHBOUR: 'it returns false'. Refute it at one input. -/
def taskKeepsWrong : ChangeSpec := { name := "taskKeeps", fn := fun _ => fun
  | [d1, d2, d3] => { results := [.lit (.bool false)], args := [d1, d2, d3] }
  | _ => none }
def TaskKeepsWrongFalsely : Prop := taskKeepsRow.holds Tryz.pinned (OpenSpec.ofChange taskKeepsWrong)

/-- 'hopperlaw16.TaskPoint': WHATEVER THE INPUT: true; the input reads as it did. -/
def taskPointSpec : ChangeSpec := { name := "taskPoint", fn := fun _ => fun
  | [d1, d2, d3] => { results := [.lit (.bool true)], args := [d1, d2, d3] }
  | _ => none }
def taskPointRow : OpenClaim := { program := "ytmdccbecmilljaagreat", sum := "f9c7eeac0244d0b2e9da3d0d68e3e44629dfd984377283e4ef552c2e5c19d2e4", func := "hopper/hopperlaw16.TaskPoint", spec := "taskPoint", inPlace := ["internal/abi.NoEscape", "slices.overlaps[hopper/api.Tx]", "slices.overlaps[hopper/api.Account]"], unfollowed := true, recurses := true, apart := false }
def TaskPointSaid : Prop := taskPointRow.holds Tryz.pinned (OpenSpec.ofChange taskPointSpec)

/-- ITS FALSE NEIGHBOUR: 'it returns false'. Refute it at one input. -/
def taskPointWrong : ChangeSpec := { name := "taskPoint", fn := fun _ => fun
  | [d1, d2, d3] => { results := [.lit (.bool false)], args := [d1, d2, d3] }
  | _ => none }
def TaskPointWrongFalsely : Prop := taskPointRow.holds Tryz.pinned (OpenSpec.ofChange taskPointWrong)

/- THE SECOND FORM. 'bulk': how many values and letters a reading holds, each counted each time it is reached (what is shared counts as often as it is met; a slice's spare places count too). A statement '..UptoSaid' is the law's where the arguments, and the package variables that the reading takes, are together of bulk at most 1048576: NARROWER than '..Said'. Prove '..Said' where nothing that the law and all that it calls make is longer than what came in: it says more and counts as full. Else prove '..UptoSaid'. A law counts once. -/
mutual
def uptoBulk {H : Type} : DataW H → Nat
  | .lit (.string bytes) => bytes.length + 1
  | .lit _ => 1
  | .nil => 1
  | .ptr d => uptoBulk d + 1
  | .slice elems spare => uptoBulkAll elems + uptoBulkAll spare + 1
  | .agg parts => uptoBulkAll parts + 1
  | .iface _ d => uptoBulk d + 1
  | .map entries => uptoBulkEntries entries + 1
  | .held _ => 1
def uptoBulkAll {H : Type} : List (DataW H) → Nat
  | [] => 0
  | d :: r => uptoBulk d + uptoBulkAll r
def uptoBulkEntries {H : Type} : List (Lit × DataW H) → Nat
  | [] => 0
  | x :: r => uptoBulkEntry x + uptoBulkEntries r
def uptoBulkEntry {H : Type} : Lit × DataW H → Nat
  | (.string bytes, d) => bytes.length + uptoBulk d + 1
  | (_, d) => uptoBulk d + 1
 end
def uptoSmall : (H : Type) → List (DataW H) → Bool := fun _ ds => decide (uptoBulkAll ds ≤ 1048576)
def OpenSpec.upto (s : _root_.Go.ChangeSpec) : _root_.Go.OpenSpec := { _root_.Go.OpenSpec.ofChange s with cond := some uptoSmall }

/-- 'hopperlaw16.TaskKeeps', WHERE WHAT IT READS IS OF BULK AT MOST 1048576: true; the input reads as it did. -/
def taskKeepsUptoRow : OpenClaim := { program := "ytmdccbecmilljaagreat", sum := "f9c7eeac0244d0b2e9da3d0d68e3e44629dfd984377283e4ef552c2e5c19d2e4", func := "hopper/hopperlaw16.TaskKeeps", spec := "taskKeeps", inPlace := ["internal/abi.NoEscape", "slices.overlaps[hopper/api.Tx]", "slices.overlaps[hopper/api.Account]"], unfollowed := true, recurses := true, apart := false, narrowed := true }
def TaskKeepsUptoSaid : Prop := taskKeepsUptoRow.holds Tryz.pinned (OpenSpec.upto taskKeepsSpec)

/-- 'hopperlaw16.TaskPoint', WHERE WHAT IT READS IS OF BULK AT MOST 1048576: true; the input reads as it did. -/
def taskPointUptoRow : OpenClaim := { program := "ytmdccbecmilljaagreat", sum := "f9c7eeac0244d0b2e9da3d0d68e3e44629dfd984377283e4ef552c2e5c19d2e4", func := "hopper/hopperlaw16.TaskPoint", spec := "taskPoint", inPlace := ["internal/abi.NoEscape", "slices.overlaps[hopper/api.Tx]", "slices.overlaps[hopper/api.Account]"], unfollowed := true, recurses := true, apart := false, narrowed := true }
def TaskPointUptoSaid : Prop := taskPointUptoRow.holds Tryz.pinned (OpenSpec.upto taskPointSpec)

end Rows
end Go.Proofs.YtmdccbecmilljaaGreat
