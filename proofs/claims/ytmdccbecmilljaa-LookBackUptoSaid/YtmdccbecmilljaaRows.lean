/-
  No cell of these rows narrows 'for every input' (looked for: loops, veiled, ifaces, maps, wideKeys, modest, calm, conditions, laid).
  DERIVED. THE GIVEN ROWS OF THIS SEAT. 4 by the template 'for every input the law returns true; each argument reads behind the call as it read before'; 0 by the template 'total and deterministic' (their statements: YtmdccbecmilljaaTotals.lean).
  GIVEN WITH THE SEED: the statements are not yours to turn. If you find one false, say at which input.
  Laid BY PROGRAM, IN A SANDBOX (cutbox-rows.mjs): the forced cells as the released guide's own fill.sh prints them over the translation b9791ebe287b538e… (all of the seat's roots in one cut). By AI agents, Wed Nov 11 2026. No macro, syntax, notation, axiom, sorry.
-/
import Derived.Test.YtmdccbecmilljaaChecked
import GoSem.Claim
import GoSem.ClaimJoined
import GoSem.ClaimMapViews
import Derived.JoinedTies
import Derived.KernelRfl
namespace Go.Proofs.Ytmdccbecmilljaa
/- THE CELL 'sum', in the pinned program and in every row, IS THE sha256 OF THE DUMP (.gsa) THAT YtmdccbecmilljaaProg.lean LOADS. Nothing in Lean hashes anything: it is a label: what it is worth is what the hold of that sum in a sandbox is worth. -/
noncomputable def Try.pinned : Pinned := { name := "ytmdccbecmilljaa", sum := "b9791ebe287b538e7cd2b634d7dda6e4a836b50327c000aa2ef842ced4189cd4", checked := Try.checked }
namespace Rows
def none {H : Type} : Left H := { results := [], args := [] }

/-- 'hopperlaw15.LookTells': WHATEVER THE INPUT: true; the input reads as it did. -/
def lookTellsSpec : ChangeSpec := { name := "lookTells", fn := fun _ => fun
  | [d1, d2, d3] => { results := [.lit (.bool true)], args := [d1, d2, d3] }
  | _ => none }
def lookTellsRow : OpenClaim := { program := "ytmdccbecmilljaa", sum := "b9791ebe287b538e7cd2b634d7dda6e4a836b50327c000aa2ef842ced4189cd4", func := "hopper/hopperlaw15.LookTells", spec := "lookTells", inPlace := ["internal/abi.NoEscape", "slices.overlaps[hopper/api.Tx]"], unfollowed := true, recurses := true, apart := false }
def LookTellsSaid : Prop := lookTellsRow.holds Try.pinned (OpenSpec.ofChange lookTellsSpec)

/-- ITS FALSE NEIGHBOUR: 'it returns false'. Refute it at one input. -/
def lookTellsWrong : ChangeSpec := { name := "lookTells", fn := fun _ => fun
  | [d1, d2, d3] => { results := [.lit (.bool false)], args := [d1, d2, d3] }
  | _ => none }
def LookTellsWrongFalsely : Prop := lookTellsRow.holds Try.pinned (OpenSpec.ofChange lookTellsWrong)

/-- 'hopperlaw15.LookMay': WHATEVER THE INPUT: true; the input reads as it did. -/
def lookMaySpec : ChangeSpec := { name := "lookMay", fn := fun _ => fun
  | [d1, d2, d3] => { results := [.lit (.bool true)], args := [d1, d2, d3] }
  | _ => none }
def lookMayRow : OpenClaim := { program := "ytmdccbecmilljaa", sum := "b9791ebe287b538e7cd2b634d7dda6e4a836b50327c000aa2ef842ced4189cd4", func := "hopper/hopperlaw15.LookMay", spec := "lookMay", inPlace := ["internal/abi.NoEscape", "slices.overlaps[hopper/api.Tx]"], unfollowed := true, recurses := true, apart := false }
def LookMaySaid : Prop := lookMayRow.holds Try.pinned (OpenSpec.ofChange lookMaySpec)

/-- ITS FALSE NEIGHBOUR: 'it returns false'. Refute it at one input. -/
def lookMayWrong : ChangeSpec := { name := "lookMay", fn := fun _ => fun
  | [d1, d2, d3] => { results := [.lit (.bool false)], args := [d1, d2, d3] }
  | _ => none }
def LookMayWrongFalsely : Prop := lookMayRow.holds Try.pinned (OpenSpec.ofChange lookMayWrong)

/-- 'hopperlaw15.LookBack': WHATEVER THE INPUT: true; the input reads as it did. -/
def lookBackSpec : ChangeSpec := { name := "lookBack", fn := fun _ => fun
  | [d1, d2, d3] => { results := [.lit (.bool true)], args := [d1, d2, d3] }
  | _ => none }
def lookBackRow : OpenClaim := { program := "ytmdccbecmilljaa", sum := "b9791ebe287b538e7cd2b634d7dda6e4a836b50327c000aa2ef842ced4189cd4", func := "hopper/hopperlaw15.LookBack", spec := "lookBack", inPlace := ["internal/abi.NoEscape", "slices.overlaps[hopper/api.Tx]"], unfollowed := true, recurses := true, apart := false }
def LookBackSaid : Prop := lookBackRow.holds Try.pinned (OpenSpec.ofChange lookBackSpec)

/-- ITS FALSE NEIGHBOUR: 'it returns false'. Refute it at one input. -/
def lookBackWrong : ChangeSpec := { name := "lookBack", fn := fun _ => fun
  | [d1, d2, d3] => { results := [.lit (.bool false)], args := [d1, d2, d3] }
  | _ => none }
def LookBackWrongFalsely : Prop := lookBackRow.holds Try.pinned (OpenSpec.ofChange lookBackWrong)

/-- 'hopperlaw15.LookWhose': WHATEVER THE INPUT: true; the input reads as it did. -/
def lookWhoseSpec : ChangeSpec := { name := "lookWhose", fn := fun _ => fun
  | [d1, d2] => { results := [.lit (.bool true)], args := [d1, d2] }
  | _ => none }
def lookWhoseRow : OpenClaim := { program := "ytmdccbecmilljaa", sum := "b9791ebe287b538e7cd2b634d7dda6e4a836b50327c000aa2ef842ced4189cd4", func := "hopper/hopperlaw15.LookWhose", spec := "lookWhose", inPlace := ["internal/abi.NoEscape", "slices.overlaps[hopper/api.Tx]"], unfollowed := true, recurses := true, apart := false }
def LookWhoseSaid : Prop := lookWhoseRow.holds Try.pinned (OpenSpec.ofChange lookWhoseSpec)

/-- ITS FALSE NEIGHBOUR: 'it returns false'. Refute it at one input. -/
def lookWhoseWrong : ChangeSpec := { name := "lookWhose", fn := fun _ => fun
  | [d1, d2] => { results := [.lit (.bool false)], args := [d1, d2] }
  | _ => none }
def LookWhoseWrongFalsely : Prop := lookWhoseRow.holds Try.pinned (OpenSpec.ofChange lookWhoseWrong)

/- THE SECOND FORM. 'bulk': how many values and letters a reading holds, each counted each time it is reached (what is shared counts as often as it is met; a slice's spare places count too). A statement '..UptoSaid' is the law's where the arguments, and the package variables that the reading takes, are together of bulk at most 1048576: NARROWER than '..Said'. Prove '..Said' where nothing that the law and all that it calls make is longer than what came in: it says more and counts as full. Else prove '..UptoSaid'. A law counts once. -/
mutual
def uptoBulk {H : Type} : DataW H → Nat
  | .lit (.string bytes) => bytes.length + 1
  | .lit _ => 1
  | .nil => 1
  | .ptr d => uptoBulk d + 1
  | .slice elems spare => uptoBulkAll elems + uptoBulkAll spare + 1
  | .agg parts => uptoBulkAll parts + 1
  | .iface _ d => uptoBulk d + 1
  | .map entries => uptoBulkEntries entries + 1
  | .held _ => 1
def uptoBulkAll {H : Type} : List (DataW H) → Nat
  | [] => 0
  | d :: r => uptoBulk d + uptoBulkAll r
def uptoBulkEntries {H : Type} : List (Lit × DataW H) → Nat
  | [] => 0
  | x :: r => uptoBulkEntry x + uptoBulkEntries r
def uptoBulkEntry {H : Type} : Lit × DataW H → Nat
  | (.string bytes, d) => bytes.length + uptoBulk d + 1
  | (_, d) => uptoBulk d + 1
 end
def uptoSmall : (H : Type) → List (DataW H) → Bool := fun _ ds => decide (uptoBulkAll ds ≤ 1048576)
def OpenSpec.upto (s : _root_.Go.ChangeSpec) : _root_.Go.OpenSpec := { _root_.Go.OpenSpec.ofChange s with cond := some uptoSmall }

/-- 'hopperlaw15.LookTells', WHERE WHAT IT READS IS OF BULK AT MOST 1048576: true; the input reads as it did. -/
def lookTellsUptoRow : OpenClaim := { program := "ytmdccbecmilljaa", sum := "b9791ebe287b538e7cd2b634d7dda6e4a836b50327c000aa2ef842ced4189cd4", func := "hopper/hopperlaw15.LookTells", spec := "lookTells", inPlace := ["internal/abi.NoEscape", "slices.overlaps[hopper/api.Tx]"], unfollowed := true, recurses := true, apart := false, narrowed := true }
def LookTellsUptoSaid : Prop := lookTellsUptoRow.holds Try.pinned (OpenSpec.upto lookTellsSpec)

/-- 'hopperlaw15.LookMay', WHERE WHAT IT READS IS OF BULK AT MOST 1048576: true; the input reads as it did. -/
def lookMayUptoRow : OpenClaim := { program := "ytmdccbecmilljaa", sum := "b9791ebe287b538e7cd2b634d7dda6e4a836b50327c000aa2ef842ced4189cd4", func := "hopper/hopperlaw15.LookMay", spec := "lookMay", inPlace := ["internal/abi.NoEscape", "slices.overlaps[hopper/api.Tx]"], unfollowed := true, recurses := true, apart := false, narrowed := true }
def LookMayUptoSaid : Prop := lookMayUptoRow.holds Try.pinned (OpenSpec.upto lookMaySpec)

/-- 'hopperlaw15.LookBack', WHERE WHAT IT READS IS OF BULK AT MOST 1048576: true; the input reads as it did. -/
def lookBackUptoRow : OpenClaim := { program := "ytmdccbecmilljaa", sum := "b9791ebe287b538e7cd2b634d7dda6e4a836b50327c000aa2ef842ced4189cd4", func := "hopper/hopperlaw15.LookBack", spec := "lookBack", inPlace := ["internal/abi.NoEscape", "slices.overlaps[hopper/api.Tx]"], unfollowed := true, recurses := true, apart := false, narrowed := true }
def LookBackUptoSaid : Prop := lookBackUptoRow.holds Try.pinned (OpenSpec.upto lookBackSpec)

/-- 'hopperlaw15.LookWhose', WHERE WHAT IT READS IS OF BULK AT MOST 1048576: true; the input reads as it did. -/
def lookWhoseUptoRow : OpenClaim := { program := "ytmdccbecmilljaa", sum := "b9791ebe287b538e7cd2b634d7dda6e4a836b50327c000aa2ef842ced4189cd4", func := "hopper/hopperlaw15.LookWhose", spec := "lookWhose", inPlace := ["internal/abi.NoEscape", "slices.overlaps[hopper/api.Tx]"], unfollowed := true, recurses := true, apart := false, narrowed := true }
def LookWhoseUptoSaid : Prop := lookWhoseUptoRow.holds Try.pinned (OpenSpec.upto lookWhoseSpec)

end Rows
end Go.Proofs.Ytmdccbecmilljaa
