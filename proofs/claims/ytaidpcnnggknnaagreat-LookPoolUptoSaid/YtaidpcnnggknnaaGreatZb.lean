/- What Go functions come to, as Lean functions: each with its contract. -/
import Derived.Test.YtaidpcnnggknnaaGreatP
import Derived.Test.YtaidpcnnggknnaaGreatVd
import Derived.Test.YtaidpcnnggknnaaGreatProg
import Derived.Test.YtaidpcnnggknnaaGreatZa
import Derived.Test.YtaidpcnnggknnaaGreatWc
import Derived.Test.YtaidpcnnggknnaaGreatWa
import Derived.Test.YtaidpcnnggknnaaGreatYb

set_option linter.unusedVariables false
set_option linter.unusedSimpArgs false
namespace Go.Vm
open Go Go.RowKit Go.Proofs
attribute [-simp] env0 envI evOps evOne evOp evIndexAddr evIndex evPick binV evLoad evStore loadC callV nilC storeC toDVs toDAs resRs
attribute [local simp] List.lookup List.replicate List.range_succ env0_tree envI_tree

theorem en_k2c : Enters Tryz.prog 39 := ⟨_, Tryz.func39, rfl, rfl⟩
def ty_k2c : List (Nat × TI) := [ti31, ti65, ti23, ti38, ti82, ti35, ti3, ti32, ti4, ti68, ti34, ti29]
noncomputable def C_k2c : Cfg := mkC ty_k2c [(31, [.i .i64, .i .i64, .i .i64, .i .i64, .i .i64, .s])] [(37, M_k68), (41, M_k3d), (40, M_k3e), (42, M_k3c), (73, M_k3b)] [37, 40] [] [] [] []
theorem E_k2c : Env1 Tryz.prog C_k2c := mkC_ok (by kernel_rfl) (⟨⟨en_k68, cc_k68⟩, ⟨⟨en_k3d, cc_k3d⟩, ⟨⟨en_k3e, cc_k3e⟩, ⟨⟨en_k3c, cc_k3c⟩, ⟨⟨en_k3b, cc_k3b⟩, trivial⟩⟩⟩⟩⟩) (by kernel_rfl)
theorem c_law15_live : CIs (C_k2c) ty_k2c [(31, [.i .i64, .i .i64, .i .i64, .i .i64, .i .i64, .s])] [(37, M_k68), (41, M_k3d), (40, M_k3e), (42, M_k3c), (73, M_k3b)] [37, 41, 40, 42, 73] [37, 40] [] [] [] [] [] [] := ⟨rfl, rfl, rfl, rfl, rfl, rfl, rfl, rfl, rfl, rfl, rfl⟩
noncomputable def F_k2c : Option (Bool) := Wfn C_k2c [] [] Tryz.f39 (res1 rB) []
noncomputable def M_k2c : List DA → Option (List RV) := con0  ((F_k2c).map (res1 rB).enc)
set_option maxRecDepth 100000 in
theorem cc_k2c : CallC Tryz.prog 39 M_k2c := cc0 E_k2c Tryz.func39 rfl rfl (T := []) (G := []) (r := (res1 rB)) <| by unfold F_k2c; exact Wfn_eq rfl
set_option maxHeartbeats 20000000 in
set_option maxRecDepth 100000 in
theorem w_law15_live_a  : F_k2c  = some true := by
    unfold F_k2c Wfn
    simp only [Tryz.f39]
    unfold Wf
    simp (maxSteps := 10000000) (implicitDefEqProofs := false) [ty_k2c, c_law15_live, Tryz.f39, M_k68, M_k3d, M_k3e, M_k3c, M_k3b, iC, uC, bC, sC, Acc.c, Config.c, Event.c, Op.c, Plan.c, Result.c, Tx.c, live1, live2, live3, live4, live5, live6, live7, live8, live9', live10', live11, live12, live_p1, live_p2, live_p3, live_p4, live_p5, live_q2, live_q3, live_q4, live_q5, live_r1, live_r2, live_u1, live_u2, live_u3, live_v1, live_v2, live_w1, live_w7, live_f6, live_f0]
    all_goals rfl

end Go.Vm

/- What Go functions come to, as Lean functions: each with its contract. -/
set_option linter.unusedVariables false
set_option linter.unusedSimpArgs false
namespace Go.Vm
open Go Go.RowKit Go.Proofs
attribute [-simp] env0 envI evOps evOne evOp evIndexAddr evIndex evPick binV evLoad evStore loadC callV nilC storeC toDVs toDAs resRs
attribute [local simp] List.lookup List.replicate List.range_succ env0_tree envI_tree

theorem en_k28 : Enters Tryz.prog 9 := ⟨_, Tryz.func9, rfl, rfl⟩
def ty_k28 : List (Nat × TI) := [ti23, ti26, ti24, ti3, ti9, ti38, ti34, ti29, ti35, ti63, ti65, ti82, ti4, ti39, ti68]
noncomputable def C_k28 : Cfg := mkC ty_k28 [] [(12, M_k7b), (22, M_k89), (39, M_k2c), (14, M_k49), (40, M_k3e), (31, M_k7c), (41, M_k3d), (24, M_k90), (42, M_k3c), (16, M_k79), (35, M_k80), (17, M_k8f), (18, M_k8c)] [12, 22, 39, 40, 24, 16, 17, 18] [] [999999] [] [(8, [true, true, true, true, true, true, false, false]), (9, [true, true, false, true, true, true, true, true, true, true, true, true, true, true])]
theorem E_k28 : Env1 Tryz.prog C_k28 := mkC_ok (by kernel_rfl) (⟨⟨en_k7b, cc_k7b⟩, ⟨⟨en_k89, cc_k89⟩, ⟨⟨en_k2c, cc_k2c⟩, ⟨⟨en_k49, cc_k49⟩, ⟨⟨en_k3e, cc_k3e⟩, ⟨⟨en_k7c, cc_k7c⟩, ⟨⟨en_k3d, cc_k3d⟩, ⟨⟨en_k90, cc_k90⟩, ⟨⟨en_k3c, cc_k3c⟩, ⟨⟨en_k79, cc_k79⟩, ⟨⟨en_k80, cc_k80⟩, ⟨⟨en_k8f, cc_k8f⟩, ⟨⟨en_k8c, cc_k8c⟩, trivial⟩⟩⟩⟩⟩⟩⟩⟩⟩⟩⟩⟩⟩) (by kernel_rfl)
theorem c_law15_LookPool : CIs (C_k28) ty_k28 [] [(12, M_k7b), (22, M_k89), (39, M_k2c), (14, M_k49), (40, M_k3e), (31, M_k7c), (41, M_k3d), (24, M_k90), (42, M_k3c), (16, M_k79), (35, M_k80), (17, M_k8f), (18, M_k8c)] [12, 22, 39, 14, 40, 31, 41, 24, 42, 16, 35, 17, 18] [12, 22, 39, 40, 24, 16, 17, 18] [] [999999] [] [(8, [true, true, true, true, true, true, false, false]), (9, [true, true, false, true, true, true, true, true, true, true, true, true, true, true])] [] [] := ⟨rfl, rfl, rfl, rfl, rfl, rfl, rfl, rfl, rfl, rfl, rfl⟩
set_option maxHeartbeats 20000000 in
set_option maxRecDepth 100000 in
noncomputable def pk_k28 : { F : Config → (List Acc) → Op → Option (Bool) // CallC Tryz.prog 9 (con3 (eT ceConfig) (eL ceAcc) (eT ceOp) (fun x0 x1 x2 => (F x0 x1 x2).map (res1 rB).enc)) } :=
  ⟨_, cc3 E_k28 Tryz.func9 rfl rfl (T := []) (G := []) (r := (res1 rB)) fun x0 x1 x2 => by
    unfold Wf
    simp (maxSteps := 10000000) (implicitDefEqProofs := false) [ty_k28, c_law15_LookPool, Tryz.f9, M_k7b, M_k89, M_k2c, M_k49, M_k3e, M_k7c, M_k3d, M_k90, M_k3c, M_k79, M_k80, M_k8f, M_k8c, iC, uC, bC, sC, Acc.c, Config.c, Event.c, Op.c, Plan.c, Result.c, Shard.c, Tx.c]
    try rfl⟩
noncomputable def F_k28 : Config → (List Acc) → Op → Option (Bool) := pk_k28.1
noncomputable def M_k28 : List DA → Option (List RV) := con3 (eT ceConfig) (eL ceAcc) (eT ceOp) (fun x0 x1 x2 => (F_k28 x0 x1 x2).map (res1 rB).enc)
theorem cc_k28 : CallC Tryz.prog 9 M_k28 := pk_k28.2

end Go.Vm
