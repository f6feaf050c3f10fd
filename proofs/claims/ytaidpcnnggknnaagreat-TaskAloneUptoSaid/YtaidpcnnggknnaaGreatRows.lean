/-
  No cell of these rows narrows 'for every input' (looked for: loops, veiled, ifaces, maps, wideKeys, modest, calm, conditions, laid).
  DERIVED. THE GIVEN ROWS OF THIS SEAT. 9 by the template 'for every input the law returns true; each argument reads behind the call as it read before'; 0 by the template 'total and deterministic' (their statements: YtaidpcnnggknnaaGreatTotals.lean).
  GIVEN WITH THE SEED: the statements are not yours to turn. If you find one false, say at which input.
  Laid BY PROGRAM, IN A SANDBOX (cutbox-rows.mjs): the forced cells as the released guide's own fill.sh prints them over the translation e3554e01dd066a73… (all of the seat's roots in one cut). By AI agents, Wed Nov 11 2026. No macro, syntax, notation, axiom, sorry.
-/
import Derived.Test.YtaidpcnnggknnaaGreatChecked
import GoSem.Claim
import GoSem.ClaimJoined
import GoSem.ClaimMapViews
import Derived.JoinedTies
import Derived.KernelRfl
namespace Go.Proofs.YtaidpcnnggknnaaGreat
/- THE CELL 'sum', in the pinned program and in every row, IS THE sha256 OF THE DUMP (.gsa) THAT YtaidpcnnggknnaaGreatProg.lean LOADS. Nothing in Lean hashes anything: it is a label: what it is worth is what the hold of that sum in a sandbox is worth. -/
noncomputable def Tryz.pinned : Pinned := { name := "ytaidpcnnggknnaagreat", sum := "e3554e01dd066a73ab71a63dc9af9b7e608f2c7f4b543b10eef651bb0f30443f", checked := Tryz.checked }
namespace Rows
def none {H : Type} : Left H := { results := [], args := [] }

/-- 'hopperlaw13.PoolDoes': WHATEVER THE INPUT: true; the input reads as it did. -/
def poolDoesSpec : ChangeSpec := { name := "poolDoes", fn := fun _ => fun
  | [d1, d2, d3] => { results := [.lit (.bool true)], args := [d1, d2, d3] }
  | _ => none }
def poolDoesRow : OpenClaim := { program := "ytaidpcnnggknnaagreat", sum := "e3554e01dd066a73ab71a63dc9af9b7e608f2c7f4b543b10eef651bb0f30443f", func := "hopper/hopperlaw13.PoolDoes", spec := "poolDoes", inPlace := ["internal/abi.NoEscape", "slices.overlaps[hopper/api.Tx]", "slices.overlaps[hopper/api.Account]", "internal/bytealg.abigen_runtime_cmpstring"], unfollowed := true, recurses := true, apart := false }
def PoolDoesSaid : Prop := poolDoesRow.holds Tryz.pinned (OpenSpec.ofChange poolDoesSpec)

/-- ITS FALSE NEIGHBOUR: 'it returns false'. Refute it at one input. -/
def poolDoesWrong : ChangeSpec := { name := "poolDoes", fn := fun _ => fun
  | [d1, d2, d3] => { results := [.lit (.bool false)], args := [d1, d2, d3] }
  | _ => none }
def PoolDoesWrongFalsely : Prop := poolDoesRow.holds Tryz.pinned (OpenSpec.ofChange poolDoesWrong)

/-- 'hopperlaw13.PoolRuns': WHATEVER THE INPUT: true; the input reads as it did. -/
def poolRunsSpec : ChangeSpec := { name := "poolRuns", fn := fun _ => fun
  | [d1, d2] => { results := [.lit (.bool true)], args := [d1, d2] }
  | _ => none }
def poolRunsRow : OpenClaim := { program := "ytaidpcnnggknnaagreat", sum := "e3554e01dd066a73ab71a63dc9af9b7e608f2c7f4b543b10eef651bb0f30443f", func := "hopper/hopperlaw13.PoolRuns", spec := "poolRuns", inPlace := ["internal/abi.NoEscape", "slices.overlaps[hopper/api.Tx]", "slices.overlaps[hopper/api.Account]", "internal/bytealg.abigen_runtime_cmpstring"], unfollowed := true, recurses := true, apart := false }
def PoolRunsSaid : Prop := poolRunsRow.holds Tryz.pinned (OpenSpec.ofChange poolRunsSpec)

/-- ITS FALSE NEIGHBOUR: 'it returns false'. Refute it at one input. -/
def poolRunsWrong : ChangeSpec := { name := "poolRuns", fn := fun _ => fun
  | [d1, d2] => { results := [.lit (.bool false)], args := [d1, d2] }
  | _ => none }
def PoolRunsWrongFalsely : Prop := poolRunsRow.holds Tryz.pinned (OpenSpec.ofChange poolRunsWrong)

/-- 'hopperlaw13.PoolMay': WHATEVER THE INPUT: true; the input reads as it did. -/
def poolMaySpec : ChangeSpec := { name := "poolMay", fn := fun _ => fun
  | [d1, d2, d3] => { results := [.lit (.bool true)], args := [d1, d2, d3] }
  | _ => none }
def poolMayRow : OpenClaim := { program := "ytaidpcnnggknnaagreat", sum := "e3554e01dd066a73ab71a63dc9af9b7e608f2c7f4b543b10eef651bb0f30443f", func := "hopper/hopperlaw13.PoolMay", spec := "poolMay", inPlace := ["internal/abi.NoEscape", "slices.overlaps[hopper/api.Tx]", "slices.overlaps[hopper/api.Account]", "internal/bytealg.abigen_runtime_cmpstring"], unfollowed := true, recurses := true, apart := false }
def PoolMaySaid : Prop := poolMayRow.holds Tryz.pinned (OpenSpec.ofChange poolMaySpec)

/-- ITS FALSE NEIGHBOUR: 'it returns false'. Refute it at one input. -/
def poolMayWrong : ChangeSpec := { name := "poolMay", fn := fun _ => fun
  | [d1, d2, d3] => { results := [.lit (.bool false)], args := [d1, d2, d3] }
  | _ => none }
def PoolMayWrongFalsely : Prop := poolMayRow.holds Tryz.pinned (OpenSpec.ofChange poolMayWrong)

/-- 'hopperlaw13.PoolEvents': WHATEVER THE INPUT: true; the input reads as it did. -/
def poolEventsSpec : ChangeSpec := { name := "poolEvents", fn := fun _ => fun
  | [d1, d2] => { results := [.lit (.bool true)], args := [d1, d2] }
  | _ => none }
def poolEventsRow : OpenClaim := { program := "ytaidpcnnggknnaagreat", sum := "e3554e01dd066a73ab71a63dc9af9b7e608f2c7f4b543b10eef651bb0f30443f", func := "hopper/hopperlaw13.PoolEvents", spec := "poolEvents", inPlace := ["internal/abi.NoEscape", "slices.overlaps[hopper/api.Tx]", "slices.overlaps[hopper/api.Account]", "internal/bytealg.abigen_runtime_cmpstring"], unfollowed := true, recurses := true, apart := false }
def PoolEventsSaid : Prop := poolEventsRow.holds Tryz.pinned (OpenSpec.ofChange poolEventsSpec)

/-- ITS FALSE NEIGHBOUR: 'it returns false'. Refute it at one input. -/
def poolEventsWrong : ChangeSpec := { name := "poolEvents", fn := fun _ => fun
  | [d1, d2] => { results := [.lit (.bool false)], args := [d1, d2] }
  | _ => none }
def PoolEventsWrongFalsely : Prop := poolEventsRow.holds Tryz.pinned (OpenSpec.ofChange poolEventsWrong)

/-- 'hopperlaw13.PoolBack': WHATEVER THE INPUT: true; the input reads as it did. -/
def poolBackSpec : ChangeSpec := { name := "poolBack", fn := fun _ => fun
  | [d1, d2, d3] => { results := [.lit (.bool true)], args := [d1, d2, d3] }
  | _ => none }
def poolBackRow : OpenClaim := { program := "ytaidpcnnggknnaagreat", sum := "e3554e01dd066a73ab71a63dc9af9b7e608f2c7f4b543b10eef651bb0f30443f", func := "hopper/hopperlaw13.PoolBack", spec := "poolBack", inPlace := ["internal/abi.NoEscape", "slices.overlaps[hopper/api.Tx]", "slices.overlaps[hopper/api.Account]", "internal/bytealg.abigen_runtime_cmpstring"], unfollowed := true, recurses := true, apart := false }
def PoolBackSaid : Prop := poolBackRow.holds Tryz.pinned (OpenSpec.ofChange poolBackSpec)

/-- ITS FALSE NEIGHBOUR: 'it returns false'. Refute it at one input. -/
def poolBackWrong : ChangeSpec := { name := "poolBack", fn := fun _ => fun
  | [d1, d2, d3] => { results := [.lit (.bool false)], args := [d1, d2, d3] }
  | _ => none }
def PoolBackWrongFalsely : Prop := poolBackRow.holds Tryz.pinned (OpenSpec.ofChange poolBackWrong)

/-- 'hopperlaw13.PoolEvicts': WHATEVER THE INPUT: true; the input reads as it did. -/
def poolEvictsSpec : ChangeSpec := { name := "poolEvicts", fn := fun _ => fun
  | [d1, d2] => { results := [.lit (.bool true)], args := [d1, d2] }
  | _ => none }
def poolEvictsRow : OpenClaim := { program := "ytaidpcnnggknnaagreat", sum := "e3554e01dd066a73ab71a63dc9af9b7e608f2c7f4b543b10eef651bb0f30443f", func := "hopper/hopperlaw13.PoolEvicts", spec := "poolEvicts", inPlace := ["internal/abi.NoEscape", "slices.overlaps[hopper/api.Tx]", "slices.overlaps[hopper/api.Account]", "internal/bytealg.abigen_runtime_cmpstring"], unfollowed := true, recurses := true, apart := false }
def PoolEvictsSaid : Prop := poolEvictsRow.holds Tryz.pinned (OpenSpec.ofChange poolEvictsSpec)

/-- ITS FALSE NEIGHBOUR: 'it returns false'. Refute it at one input. -/
def poolEvictsWrong : ChangeSpec := { name := "poolEvicts", fn := fun _ => fun
  | [d1, d2] => { results := [.lit (.bool false)], args := [d1, d2] }
  | _ => none }
def PoolEvictsWrongFalsely : Prop := poolEvictsRow.holds Tryz.pinned (OpenSpec.ofChange poolEvictsWrong)

/-- 'hopperlaw15.LookPool': WHATEVER THE INPUT: true; the input reads as it did. -/
def lookPoolSpec : ChangeSpec := { name := "lookPool", fn := fun _ => fun
  | [d1, d2, d3] => { results := [.lit (.bool true)], args := [d1, d2, d3] }
  | _ => none }
def lookPoolRow : OpenClaim := { program := "ytaidpcnnggknnaagreat", sum := "e3554e01dd066a73ab71a63dc9af9b7e608f2c7f4b543b10eef651bb0f30443f", func := "hopper/hopperlaw15.LookPool", spec := "lookPool", inPlace := ["internal/abi.NoEscape", "slices.overlaps[hopper/api.Tx]", "slices.overlaps[hopper/api.Account]", "internal/bytealg.abigen_runtime_cmpstring"], unfollowed := true, recurses := true, apart := false }
def LookPoolSaid : Prop := lookPoolRow.holds Tryz.pinned (OpenSpec.ofChange lookPoolSpec)

/-- ITS FALSE NEIGHBOUR: 'it returns false'. Refute it at one input. -/
def lookPoolWrong : ChangeSpec := { name := "lookPool", fn := fun _ => fun
  | [d1, d2, d3] => { results := [.lit (.bool false)], args := [d1, d2, d3] }
  | _ => none }
def LookPoolWrongFalsely : Prop := lookPoolRow.holds Tryz.pinned (OpenSpec.ofChange lookPoolWrong)

/-- 'hopperlaw16.TaskAlone': WHATEVER THE INPUT: true; the input reads as it did. -/
def taskAloneSpec : ChangeSpec := { name := "taskAlone", fn := fun _ => fun
  | [d1, d2, d3] => { results := [.lit (.bool true)], args := [d1, d2, d3] }
  | _ => none }
def taskAloneRow : OpenClaim := { program := "ytaidpcnnggknnaagreat", sum := "e3554e01dd066a73ab71a63dc9af9b7e608f2c7f4b543b10eef651bb0f30443f", func := "hopper/hopperlaw16.TaskAlone", spec := "taskAlone", inPlace := ["internal/abi.NoEscape", "slices.overlaps[hopper/api.Tx]", "slices.overlaps[hopper/api.Account]", "internal/bytealg.abigen_runtime_cmpstring"], unfollowed := true, recurses := true, apart := false }
def TaskAloneSaid : Prop := taskAloneRow.holds Tryz.pinned (OpenSpec.ofChange taskAloneSpec)

/-- ITS FALSE NEIGHBOUR: 'it returns false'. Refute it at one input. -/
def taskAloneWrong : ChangeSpec := { name := "taskAlone", fn := fun _ => fun
  | [d1, d2, d3] => { results := [.lit (.bool false)], args := [d1, d2, d3] }
  | _ => none }
def TaskAloneWrongFalsely : Prop := taskAloneRow.holds Tryz.pinned (OpenSpec.ofChange taskAloneWrong)

/-- 'hopperlaw16.TaskTwo': WHATEVER THE INPUT: true; the input reads as it did. -/
def taskTwoSpec : ChangeSpec := { name := "taskTwo", fn := fun _ => fun
  | [d1, d2, d3] => { results := [.lit (.bool true)], args := [d1, d2, d3] }
  | _ => none }
def taskTwoRow : OpenClaim := { program := "ytaidpcnnggknnaagreat", sum := "e3554e01dd066a73ab71a63dc9af9b7e608f2c7f4b543b10eef651bb0f30443f", func := "hopper/hopperlaw16.TaskTwo", spec := "taskTwo", inPlace := ["internal/abi.NoEscape", "slices.overlaps[hopper/api.Tx]", "slices.overlaps[hopper/api.Account]", "internal/bytealg.abigen_runtime_cmpstring"], unfollowed := true, recurses := true, apart := false }
def TaskTwoSaid : Prop := taskTwoRow.holds Tryz.pinned (OpenSpec.ofChange taskTwoSpec)

/-- ITS FALSE NEIGHBOUR: 'it returns false'. Refute it at one input. -/
def taskTwoWrong : ChangeSpec := { name := "taskTwo", fn := fun _ => fun
  | [d1, d2, d3] => { results := [.lit (.bool false)], args := [d1, d2, d3] }
  | _ => none }
def TaskTwoWrongFalsely : Prop := taskTwoRow.holds Tryz.pinned (OpenSpec.ofChange taskTwoWrong)

/- THE SECOND FORM. 'bulk': how many values and letters a reading holds, each counted each time it is reached (what is shared counts as often as it is met; a slice's spare places count too). A statement '..UptoSaid' is the law's where the arguments, and the package variables that the reading takes, are together of bulk at most 1048576: NARROWER than '..Said'. Prove '..Said' where nothing that the law and all that it calls make is longer than what came in: it says more and counts as full. Else prove '..UptoSaid'. A law counts once. -/
mutual
def uptoBulk {H : Type} : DataW H → Nat
  | .lit (.string bytes) => bytes.length + 1
  | .lit _ => 1
  | .nil => 1
  | .ptr d => uptoBulk d + 1
  | .slice elems spare => uptoBulkAll elems + uptoBulkAll spare + 1
  | .agg parts => uptoBulkAll parts + 1
  | .iface _ d => uptoBulk d + 1
  | .map entries => uptoBulkEntries entries + 1
  | .held _ => 1
def uptoBulkAll {H : Type} : List (DataW H) → Nat
  | [] => 0
  | d :: r => uptoBulk d + uptoBulkAll r
def uptoBulkEntries {H : Type} : List (Lit × DataW H) → Nat
  | [] => 0
  | x :: r => uptoBulkEntry x + uptoBulkEntries r
def uptoBulkEntry {H : Type} : Lit × DataW H → Nat
  | (.string bytes, d) => bytes.length + uptoBulk d + 1
  | (_, d) => uptoBulk d + 1
 end
def uptoSmall : (H : Type) → List (DataW H) → Bool := fun _ ds => decide (uptoBulkAll ds ≤ 1048576)
def OpenSpec.upto (s : _root_.Go.ChangeSpec) : _root_.Go.OpenSpec := { _root_.Go.OpenSpec.ofChange s with cond := some uptoSmall }

/-- 'hopperlaw13.PoolDoes', WHERE WHAT IT READS IS OF BULK AT MOST 1048576: true; the input reads as it did. -/
def poolDoesUptoRow : OpenClaim := { program := "ytaidpcnnggknnaagreat", sum := "e3554e01dd066a73ab71a63dc9af9b7e608f2c7f4b543b10eef651bb0f30443f", func := "hopper/hopperlaw13.PoolDoes", spec := "poolDoes", inPlace := ["internal/abi.NoEscape", "slices.overlaps[hopper/api.Tx]", "slices.overlaps[hopper/api.Account]", "internal/bytealg.abigen_runtime_cmpstring"], unfollowed := true, recurses := true, apart := false, narrowed := true }
def PoolDoesUptoSaid : Prop := poolDoesUptoRow.holds Tryz.pinned (OpenSpec.upto poolDoesSpec)

/-- 'hopperlaw13.PoolRuns', WHERE WHAT IT READS IS OF BULK AT MOST 1048576: true; the input reads as it did. -/
def poolRunsUptoRow : OpenClaim := { program := "ytaidpcnnggknnaagreat", sum := "e3554e01dd066a73ab71a63dc9af9b7e608f2c7f4b543b10eef651bb0f30443f", func := "hopper/hopperlaw13.PoolRuns", spec := "poolRuns", inPlace := ["internal/abi.NoEscape", "slices.overlaps[hopper/api.Tx]", "slices.overlaps[hopper/api.Account]", "internal/bytealg.abigen_runtime_cmpstring"], unfollowed := true, recurses := true, apart := false, narrowed := true }
def PoolRunsUptoSaid : Prop := poolRunsUptoRow.holds Tryz.pinned (OpenSpec.upto poolRunsSpec)

/-- 'hopperlaw13.PoolMay', WHERE WHAT IT READS IS OF BULK AT MOST 1048576: true; the input reads as it did. -/
def poolMayUptoRow : OpenClaim := { program := "ytaidpcnnggknnaagreat", sum := "e3554e01dd066a73ab71a63dc9af9b7e608f2c7f4b543b10eef651bb0f30443f", func := "hopper/hopperlaw13.PoolMay", spec := "poolMay", inPlace := ["internal/abi.NoEscape", "slices.overlaps[hopper/api.Tx]", "slices.overlaps[hopper/api.Account]", "internal/bytealg.abigen_runtime_cmpstring"], unfollowed := true, recurses := true, apart := false, narrowed := true }
def PoolMayUptoSaid : Prop := poolMayUptoRow.holds Tryz.pinned (OpenSpec.upto poolMaySpec)

/-- 'hopperlaw13.PoolEvents', WHERE WHAT IT READS IS OF BULK AT MOST 1048576: true; the input reads as it did. -/
def poolEventsUptoRow : OpenClaim := { program := "ytaidpcnnggknnaagreat", sum := "e3554e01dd066a73ab71a63dc9af9b7e608f2c7f4b543b10eef651bb0f30443f", func := "hopper/hopperlaw13.PoolEvents", spec := "poolEvents", inPlace := ["internal/abi.NoEscape", "slices.overlaps[hopper/api.Tx]", "slices.overlaps[hopper/api.Account]", "internal/bytealg.abigen_runtime_cmpstring"], unfollowed := true, recurses := true, apart := false, narrowed := true }
def PoolEventsUptoSaid : Prop := poolEventsUptoRow.holds Tryz.pinned (OpenSpec.upto poolEventsSpec)

/-- 'hopperlaw13.PoolBack', WHERE WHAT IT READS IS OF BULK AT MOST 1048576: true; the input reads as it did. -/
def poolBackUptoRow : OpenClaim := { program := "ytaidpcnnggknnaagreat", sum := "e3554e01dd066a73ab71a63dc9af9b7e608f2c7f4b543b10eef651bb0f30443f", func := "hopper/hopperlaw13.PoolBack", spec := "poolBack", inPlace := ["internal/abi.NoEscape", "slices.overlaps[hopper/api.Tx]", "slices.overlaps[hopper/api.Account]", "internal/bytealg.abigen_runtime_cmpstring"], unfollowed := true, recurses := true, apart := false, narrowed := true }
def PoolBackUptoSaid : Prop := poolBackUptoRow.holds Tryz.pinned (OpenSpec.upto poolBackSpec)

/-- 'hopperlaw13.PoolEvicts', WHERE WHAT IT READS IS OF BULK AT MOST 1048576: true; the input reads as it did. -/
def poolEvictsUptoRow : OpenClaim := { program := "ytaidpcnnggknnaagreat", sum := "e3554e01dd066a73ab71a63dc9af9b7e608f2c7f4b543b10eef651bb0f30443f", func := "hopper/hopperlaw13.PoolEvicts", spec := "poolEvicts", inPlace := ["internal/abi.NoEscape", "slices.overlaps[hopper/api.Tx]", "slices.overlaps[hopper/api.Account]", "internal/bytealg.abigen_runtime_cmpstring"], unfollowed := true, recurses := true, apart := false, narrowed := true }
def PoolEvictsUptoSaid : Prop := poolEvictsUptoRow.holds Tryz.pinned (OpenSpec.upto poolEvictsSpec)

/-- 'hopperlaw15.LookPool', WHERE WHAT IT READS IS OF BULK AT MOST 1048576: true; the input reads as it did. -/
def lookPoolUptoRow : OpenClaim := { program := "ytaidpcnnggknnaagreat", sum := "e3554e01dd066a73ab71a63dc9af9b7e608f2c7f4b543b10eef651bb0f30443f", func := "hopper/hopperlaw15.LookPool", spec := "lookPool", inPlace := ["internal/abi.NoEscape", "slices.overlaps[hopper/api.Tx]", "slices.overlaps[hopper/api.Account]", "internal/bytealg.abigen_runtime_cmpstring"], unfollowed := true, recurses := true, apart := false, narrowed := true }
def LookPoolUptoSaid : Prop := lookPoolUptoRow.holds Tryz.pinned (OpenSpec.upto lookPoolSpec)

/-- 'hopperlaw16.TaskAlone', WHERE WHAT IT READS IS OF BULK AT MOST 1048576: true; the input reads as it did. -/
def taskAloneUptoRow : OpenClaim := { program := "ytaidpcnnggknnaagreat", sum := "e3554e01dd066a73ab71a63dc9af9b7e608f2c7f4b543b10eef651bb0f30443f", func := "hopper/hopperlaw16.TaskAlone", spec := "taskAlone", inPlace := ["internal/abi.NoEscape", "slices.overlaps[hopper/api.Tx]", "slices.overlaps[hopper/api.Account]", "internal/bytealg.abigen_runtime_cmpstring"], unfollowed := true, recurses := true, apart := false, narrowed := true }
def TaskAloneUptoSaid : Prop := taskAloneUptoRow.holds Tryz.pinned (OpenSpec.upto taskAloneSpec)

/-- 'hopperlaw16.TaskTwo', WHERE WHAT IT READS IS OF BULK AT MOST 1048576: true; the input reads as it did. -/
def taskTwoUptoRow : OpenClaim := { program := "ytaidpcnnggknnaagreat", sum := "e3554e01dd066a73ab71a63dc9af9b7e608f2c7f4b543b10eef651bb0f30443f", func := "hopper/hopperlaw16.TaskTwo", spec := "taskTwo", inPlace := ["internal/abi.NoEscape", "slices.overlaps[hopper/api.Tx]", "slices.overlaps[hopper/api.Account]", "internal/bytealg.abigen_runtime_cmpstring"], unfollowed := true, recurses := true, apart := false, narrowed := true }
def TaskTwoUptoSaid : Prop := taskTwoUptoRow.holds Tryz.pinned (OpenSpec.upto taskTwoSpec)

end Rows
end Go.Proofs.YtaidpcnnggknnaaGreat
