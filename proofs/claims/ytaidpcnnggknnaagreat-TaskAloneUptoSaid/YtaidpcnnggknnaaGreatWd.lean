/- What Go functions come to, as Lean functions: each with its contract. -/
import Derived.Test.YtaidpcnnggknnaaGreatVd
import Derived.Test.YtaidpcnnggknnaaGreatWc
import Derived.Test.YtaidpcnnggknnaaGreatK
import Derived.Test.YtaidpcnnggknnaaGreatYa
import Derived.Test.YtaidpcnnggknnaaGreatYc
import Derived.Test.YtaidpcnnggknnaaGreatYb
import Derived.Test.YtaidpcnnggknnaaGreatProg

set_option linter.unusedVariables false
set_option linter.unusedSimpArgs false
namespace Go.Vm
open Go Go.RowKit Go.Proofs
attribute [-simp] env0 envI evOps evOne evOp evIndexAddr evIndex evPick binV evLoad evStore loadC callV nilC storeC toDVs toDAs resRs
attribute [local simp] List.lookup List.replicate List.range_succ env0_tree envI_tree

theorem en_kb1 : Enters Tryz.prog 159 := ⟨_, Tryz.func159, rfl, rfl⟩
def ty_kb1 : List (Nat × TI) := [ti98, ti113]
noncomputable def C_kb1 : Cfg := mkC ty_kb1 [] [] [] [(2, [(0, 113, 2)])] [] [0] []
theorem E_kb1 : Env1 Tryz.prog C_kb1 := mkC_ok (by kernel_rfl) trivial (by kernel_rfl)
theorem c_slices_Clone_Shard : CIs (C_kb1) ty_kb1 [] [] [] [] [(2, [(0, 113, 2)])] [] [0] [] [] [] := ⟨rfl, rfl, rfl, rfl, rfl, rfl, rfl, rfl, rfl, rfl, rfl⟩
set_option maxHeartbeats 20000000 in
set_option maxRecDepth 100000 in
noncomputable def pk_kb1 : { F : (List Shard) → Option ((List Shard)) // CallC Tryz.prog 159 (con1 (eL ceShard) (fun x0 => (F x0).map (res1 (rOwn 113 2 ceShard)).enc)) } :=
  ⟨_, cc1 E_kb1 Tryz.func159 rfl rfl (T := []) (G := []) (r := (res1 (rOwn 113 2 ceShard))) fun x0 => by
    unfold Wf
    simp (maxSteps := 10000000) (implicitDefEqProofs := false) [ty_kb1, c_slices_Clone_Shard, Tryz.f159, iC, uC, bC, sC, Acc.c, Shard.c, Tx.c]
    try rfl⟩
noncomputable def F_kb1 : (List Shard) → Option ((List Shard)) := pk_kb1.1
noncomputable def M_kb1 : List DA → Option (List RV) := con1 (eL ceShard) (fun x0 => (F_kb1 x0).map (res1 (rOwn 113 2 ceShard)).enc)
theorem cc_kb1 : CallC Tryz.prog 159 M_kb1 := pk_kb1.2
theorem en_kcb : Enters Tryz.prog 86 := ⟨_, Tryz.func86, rfl, rfl⟩
def ty_kcb : List (Nat × TI) := [ti154, ti153]
noncomputable def C_kcb : Cfg := mkC ty_kcb [] [] [] [] [0] [] []
theorem E_kcb : Env1 Tryz.prog C_kcb := mkC_ok (by kernel_rfl) trivial (by kernel_rfl)
theorem c_task_steps : CIs (C_kcb) ty_kcb [] [] [] [] [] [0] [] [] [] [] := ⟨rfl, rfl, rfl, rfl, rfl, rfl, rfl, rfl, rfl, rfl, rfl⟩
noncomputable def I_kcb : List V1 → Objs → Option (TV × Objs) := Wi C_kcb [] [] Tryz.f86
theorem ic_kcb : InlC Tryz.prog 86 I_kcb := inlC_of_W E_kcb Tryz.func86 rfl rfl
theorem en_kc7 : Enters Tryz.prog 156 := ⟨_, Tryz.func156, rfl, rfl⟩
def ty_kc7 : List (Nat × TI) := [ti34, ti152, ti94, ti3, ti4]
noncomputable def C_kc7 : Cfg := mkC ty_kc7 [] [] [] [] [] [] []
theorem E_kc7 : Env1 Tryz.prog C_kc7 := mkC_ok (by kernel_rfl) trivial (by kernel_rfl)
theorem c_task_end : CIs (C_kc7) ty_kc7 [] [] [] [] [] [] [] [] [] [] := ⟨rfl, rfl, rfl, rfl, rfl, rfl, rfl, rfl, rfl, rfl, rfl⟩
noncomputable def I_kc7 : List V1 → Objs → Option (TV × Objs) := Wi C_kc7 [] [] Tryz.f156
theorem ic_kc7 : InlC Tryz.prog 156 I_kc7 := inlC_of_W E_kc7 Tryz.func156 rfl rfl
theorem en_kc6 : Enters Tryz.prog 125 := ⟨_, Tryz.func125, rfl, rfl⟩
def ty_kc6 : List (Nat × TI) := [ti152, ti94, ti38, ti100, ti23, ti65, ti82, ti150, ti34, ti3]
noncomputable def C0_kc6 : Cfg := mkC ty_kc6 [] [(40, M_k3e), (41, M_k3d)] [40, 156] [] [] [] [(2, [true, true, true, true, true, true, true, true, true, true, true, true, false, true, false])]
noncomputable def C_kc6 : Cfg := mkI C0_kc6 [(156, I_kc7)]
theorem E0_kc6 : Env1 Tryz.prog C0_kc6 := mkC_ok (by kernel_rfl) (⟨⟨en_k3e, cc_k3e⟩, ⟨⟨en_k3d, cc_k3d⟩, trivial⟩⟩) (by kernel_rfl)
theorem E_kc6 : Env1 Tryz.prog C_kc6 := mkI_ok E0_kc6 (⟨⟨en_kc7, ic_kc7⟩, trivial⟩)
theorem c_task_begin : CIs (C_kc6) ty_kc6 [] [(40, M_k3e), (41, M_k3d)] [40, 41] [40, 156] [] [] [] [(2, [true, true, true, true, true, true, true, true, true, true, true, true, false, true, false])] [] [156] := ⟨rfl, rfl, rfl, rfl, rfl, rfl, rfl, rfl, rfl, rfl, rfl⟩
theorem ci_task_begin : CIl C_kc6 [(156, I_kc7)] := rfl
noncomputable def I_kc6 : List V1 → Objs → Option (TV × Objs) := Wi C_kc6 [] [] Tryz.f125
theorem ic_kc6 : InlC Tryz.prog 125 I_kc6 := inlC_of_W E_kc6 Tryz.func125 rfl rfl
theorem en_kcc : Enters Tryz.prog 126 := ⟨_, Tryz.func126, rfl, rfl⟩
def ty_kcc : List (Nat × TI) := [ti152, ti100, ti96, ti3, ti94]
noncomputable def C_kcc : Cfg := mkC ty_kcc [] [(157, M_k38)] [] [] [] [] [(0, [true, true, true, true, true, true, true, true, true, true, true, true, true, true, false, true, true, true, true, true, true, false])]
theorem E_kcc : Env1 Tryz.prog C_kcc := mkC_ok (by kernel_rfl) (⟨⟨en_k38, cc_k38⟩, trivial⟩) (by kernel_rfl)
theorem c_task_take : CIs (C_kcc) ty_kcc [] [(157, M_k38)] [157] [] [] [] [] [(0, [true, true, true, true, true, true, true, true, true, true, true, true, true, true, false, true, true, true, true, true, true, false])] [] [] := ⟨rfl, rfl, rfl, rfl, rfl, rfl, rfl, rfl, rfl, rfl, rfl⟩
noncomputable def I_kcc : List V1 → Objs → Option (TV × Objs) := Wi C_kcc [] [] Tryz.f126
theorem ic_kcc : InlC Tryz.prog 126 I_kcc := inlC_of_W E_kcc Tryz.func126 rfl rfl
theorem en_kc9 : Enters Tryz.prog 127 := ⟨_, Tryz.func127, rfl, rfl⟩
def ty_kc9 : List (Nat × TI) := [ti152, ti100, ti23, ti98, ti3, ti113, ti94, ti38, ti65, ti82, ti4, ti34, ti150]
noncomputable def C0_kc9 : Cfg := mkC ty_kc9 [] [(131, M_ka8), (41, M_k3d)] [156] [] [] [] [(0, [true, true, true, true, true, true, true, true, true, true, true, true, true, true, true, true, true, true, true, true, true, true, true, true, true, true, true, true, false, true, true, true, false])]
noncomputable def C_kc9 : Cfg := mkI C0_kc9 [(156, I_kc7)]
theorem E0_kc9 : Env1 Tryz.prog C0_kc9 := mkC_ok (by kernel_rfl) (⟨⟨en_ka8, cc_ka8⟩, ⟨⟨en_k3d, cc_k3d⟩, trivial⟩⟩) (by kernel_rfl)
theorem E_kc9 : Env1 Tryz.prog C_kc9 := mkI_ok E0_kc9 (⟨⟨en_kc7, ic_kc7⟩, trivial⟩)
theorem c_task_see : CIs (C_kc9) ty_kc9 [] [(131, M_ka8), (41, M_k3d)] [131, 41] [156] [] [] [] [(0, [true, true, true, true, true, true, true, true, true, true, true, true, true, true, true, true, true, true, true, true, true, true, true, true, true, true, true, true, false, true, true, true, false])] [] [156] := ⟨rfl, rfl, rfl, rfl, rfl, rfl, rfl, rfl, rfl, rfl, rfl⟩
theorem ci_task_see : CIl C_kc9 [(156, I_kc7)] := rfl
noncomputable def I_kc9 : List V1 → Objs → Option (TV × Objs) := Wi C_kc9 [] [] Tryz.f127
theorem ic_kc9 : InlC Tryz.prog 127 I_kc9 := inlC_of_W E_kc9 Tryz.func127 rfl rfl
theorem en_kc4 : Enters Tryz.prog 128 := ⟨_, Tryz.func128, rfl, rfl⟩
def ty_kc4 : List (Nat × TI) := [ti152, ti100, ti97, ti94, ti82, ti3, ti29, ti150, ti34, ti35, ti68]
noncomputable def C0_kc4 : Cfg := mkC ty_kc4 [] [(158, M_k4d), (42, M_k3c)] [158, 156] [] [] [] [(0, [true, true, true, true, true, true, true, true, true, true, true, true, true, true, true, false, false, true]), (3, [true, true, true, true, true, true, true, true, true, true, true, true, false, true, true, false])]
noncomputable def C_kc4 : Cfg := mkI C0_kc4 [(156, I_kc7)]
theorem E0_kc4 : Env1 Tryz.prog C0_kc4 := mkC_ok (by kernel_rfl) (⟨⟨en_k4d, cc_k4d⟩, ⟨⟨en_k3c, cc_k3c⟩, trivial⟩⟩) (by kernel_rfl)
theorem E_kc4 : Env1 Tryz.prog C_kc4 := mkI_ok E0_kc4 (⟨⟨en_kc7, ic_kc7⟩, trivial⟩)
theorem c_task_adjust : CIs (C_kc4) ty_kc4 [] [(158, M_k4d), (42, M_k3c)] [158, 42] [158, 156] [] [] [] [(0, [true, true, true, true, true, true, true, true, true, true, true, true, true, true, true, false, false, true]), (3, [true, true, true, true, true, true, true, true, true, true, true, true, false, true, true, false])] [] [156] := ⟨rfl, rfl, rfl, rfl, rfl, rfl, rfl, rfl, rfl, rfl, rfl⟩
theorem ci_task_adjust : CIl C_kc4 [(156, I_kc7)] := rfl
noncomputable def I_kc4 : List V1 → Objs → Option (TV × Objs) := Wi C_kc4 [] [] Tryz.f128
theorem ic_kc4 : InlC Tryz.prog 128 I_kc4 := inlC_of_W E_kc4 Tryz.func128 rfl rfl
theorem en_kc5 : Enters Tryz.prog 129 := ⟨_, Tryz.func129, rfl, rfl⟩
def ty_kc5 : List (Nat × TI) := [ti152, ti100, ti98, ti3, ti113, ti94, ti82, ti65]
noncomputable def C_kc5 : Cfg := mkC ty_kc5 [] [(159, M_kb1), (132, M_kaa)] [] [] [] [] [(1, [true, true, true, true, true, true, true, true, true, true, true, true, true, true, true, true, true, true, true, true, true, true, true, true, true, true, true, true, false])]
theorem E_kc5 : Env1 Tryz.prog C_kc5 := mkC_ok (by kernel_rfl) (⟨⟨en_kb1, cc_kb1⟩, ⟨⟨en_kaa, cc_kaa⟩, trivial⟩⟩) (by kernel_rfl)
theorem c_task_apply : CIs (C_kc5) ty_kc5 [] [(159, M_kb1), (132, M_kaa)] [159, 132] [] [] [] [] [(1, [true, true, true, true, true, true, true, true, true, true, true, true, true, true, true, true, true, true, true, true, true, true, true, true, true, true, true, true, false])] [] [] := ⟨rfl, rfl, rfl, rfl, rfl, rfl, rfl, rfl, rfl, rfl, rfl⟩
noncomputable def I_kc5 : List V1 → Objs → Option (TV × Objs) := Wi C_kc5 [] [] Tryz.f129
theorem ic_kc5 : InlC Tryz.prog 129 I_kc5 := inlC_of_W E_kc5 Tryz.func129 rfl rfl
theorem en_kc8 : Enters Tryz.prog 130 := ⟨_, Tryz.func130, rfl, rfl⟩
def ty_kc8 : List (Nat × TI) := [ti152, ti100, ti96, ti3, ti94]
noncomputable def C_kc8 : Cfg := mkC ty_kc8 [] [(160, M_k36)] [] [] [] [] [(0, [true, true, true, true, true, true, true, true, true, true, true, true, true, true, false, true, true, true, true, true, true, false])]
theorem E_kc8 : Env1 Tryz.prog C_kc8 := mkC_ok (by kernel_rfl) (⟨⟨en_k36, cc_k36⟩, trivial⟩) (by kernel_rfl)
theorem c_task_give : CIs (C_kc8) ty_kc8 [] [(160, M_k36)] [160] [] [] [] [] [(0, [true, true, true, true, true, true, true, true, true, true, true, true, true, true, false, true, true, true, true, true, true, false])] [] [] := ⟨rfl, rfl, rfl, rfl, rfl, rfl, rfl, rfl, rfl, rfl, rfl⟩
noncomputable def I_kc8 : List V1 → Objs → Option (TV × Objs) := Wi C_kc8 [] [] Tryz.f130
theorem ic_kc8 : InlC Tryz.prog 130 I_kc8 := inlC_of_W E_kc8 Tryz.func130 rfl rfl
theorem en_kc3 : Enters Tryz.prog 50 := ⟨_, Tryz.func50, rfl, rfl⟩
def ty_kc3 : List (Nat × TI) := [ti94, ti100, ti35, ti3, ti152, ti154, ti150, ti4, ti68, ti153]
noncomputable def C0_kc3 : Cfg := mkP (mkC ty_kc3 [] [(49, M_kbf), (84, M_kca)] [49, 84] [(8, [(0, 68, 8)])] [] [] [(2, [true, true, false, false, true, true]), (3, [true, true, true, true, true, true, true, false, true]), (4, [false, true, true, true, true, false]), (5, [true, true, true, true, true, true, true, true, true, true, true, true, true, true, true, true, false, false, true, true])]) [(2, [3, 5]), (4, [3]), (5, [10])]
noncomputable def C_kc3 : Cfg := mkI C0_kc3 [(86, I_kcb), (125, I_kc6), (126, I_kcc), (127, I_kc9), (128, I_kc4), (129, I_kc5), (130, I_kc8)]
theorem E0_kc3 : Env1 Tryz.prog C0_kc3 := mkP_ok (mkC_ok (by kernel_rfl) (⟨⟨en_kbf, cc_kbf⟩, ⟨⟨en_kca, cc_kca⟩, trivial⟩⟩) (by kernel_rfl))
theorem E_kc3 : Env1 Tryz.prog C_kc3 := mkI_ok E0_kc3 (⟨⟨en_kcb, ic_kcb⟩, ⟨⟨en_kc6, ic_kc6⟩, ⟨⟨en_kcc, ic_kcc⟩, ⟨⟨en_kc9, ic_kc9⟩, ⟨⟨en_kc4, ic_kc4⟩, ⟨⟨en_kc5, ic_kc5⟩, ⟨⟨en_kc8, ic_kc8⟩, trivial⟩⟩⟩⟩⟩⟩⟩)
theorem c_task_Step : CIs (C_kc3) ty_kc3 [] [(49, M_kbf), (84, M_kca)] [49, 84] [49, 84] [(8, [(0, 68, 8)])] [] [] [(2, [true, true, false, false, true, true]), (3, [true, true, true, true, true, true, true, false, true]), (4, [false, true, true, true, true, false]), (5, [true, true, true, true, true, true, true, true, true, true, true, true, true, true, true, true, false, false, true, true])] [(2, [3, 5]), (4, [3]), (5, [10])] [86, 125, 126, 127, 128, 129, 130] := ⟨rfl, rfl, rfl, rfl, rfl, rfl, rfl, rfl, rfl, rfl, rfl⟩
theorem ci_task_Step : CIl C_kc3 [(86, I_kcb), (125, I_kc6), (126, I_kcc), (127, I_kc9), (128, I_kc4), (129, I_kc5), (130, I_kc8)] := rfl
noncomputable def F_kc3 : Task → Int → Sight → Option (Task × Sight × (List Event) × Bool) := fun x0 x1 x2 => Wfn C_kc3 [] [] Tryz.f50 (res4 (rAgg ceTask) (rAgg ceSight) (rSl ceEvent) rB) [(eT ceTask).enc x0, eInt.enc x1, (eT ceSight).enc x2]
noncomputable def M_kc3 : List DA → Option (List RV) := con3 (eT ceTask) eInt (eT ceSight) (fun x0 x1 x2 => (F_kc3 x0 x1 x2).map (res4 (rAgg ceTask) (rAgg ceSight) (rSl ceEvent) rB).enc)
set_option maxRecDepth 100000 in
theorem cc_kc3 : CallC Tryz.prog 50 M_kc3 := cc3 E_kc3 Tryz.func50 rfl rfl (T := []) (G := []) (r := (res4 (rAgg ceTask) (rAgg ceSight) (rSl ceEvent) rB)) fun x0 x1 x2 => by unfold F_kc3; exact Wfn_eq rfl
set_option maxHeartbeats 20000000 in
set_option maxRecDepth 100000 in
theorem w_task_Step_no (x0 : Task) (x1 : Int) (x2 : Sight) (h : F_kbf x0 x1 x2 = some false) : F_kc3 x0 x1 x2 = some (x0, x2, [], false) := by
    unfold F_kc3 Wfn
    simp only [Tryz.f50]
    unfold Wf
    simp (maxSteps := 10000000) (implicitDefEqProofs := false) [ty_kc3, c_task_Step, ci_task_Step, Tryz.f50, M_kbf, M_kca, iC, uC, bC, sC, Acc.c, Config.c, Event.c, Op.c, Plan.c, Pot.c, Result.c, Shard.c, Sight.c, Task.c, Tx.c, ty_kcb, c_task_steps, Tryz.f86, I_kcb, Wi, ty_kc6, c_task_begin, ci_task_begin, Tryz.f125, M_k3e, M_k3d, ty_kc7, c_task_end, Tryz.f156, I_kc7, mkI, I_kc6, ty_kcc, c_task_take, Tryz.f126, M_k38, I_kcc, ty_kc9, c_task_see, ci_task_see, Tryz.f127, M_ka8, I_kc9, ty_kc4, c_task_adjust, ci_task_adjust, Tryz.f128, M_k4d, M_k3c, I_kc4, ty_kc5, c_task_apply, Tryz.f129, M_kb1, M_kaa, I_kc5, ty_kc8, c_task_give, Tryz.f130, M_k36, I_kc8, mkI, h]
    all_goals rfl
set_option maxHeartbeats 20000000 in
set_option maxRecDepth 100000 in
noncomputable def w_task_Step_p0 : { R : Task → Int → Sight → Option (Task × Sight × (List Event) × Bool) // ∀ (x0 : Task) (x1 : Int) (x2 : Sight) (h : F_kbf x0 x1 x2 = some true) (h0 : x0.phase = 0), F_kc3 x0 x1 x2 = R x0 x1 x2 } := ⟨_, fun x0 x1 x2 h h0 => by
    unfold F_kc3 Wfn
    simp only [Tryz.f50]
    unfold Wf
    simp (maxSteps := 10000000) (implicitDefEqProofs := false) [ty_kc3, c_task_Step, ci_task_Step, Tryz.f50, M_kbf, M_kca, iC, uC, bC, sC, Acc.c, Config.c, Event.c, Op.c, Plan.c, Pot.c, Result.c, Shard.c, Sight.c, Task.c, Tx.c, ty_kcb, c_task_steps, Tryz.f86, I_kcb, Wi, ty_kc6, c_task_begin, ci_task_begin, Tryz.f125, M_k3e, M_k3d, ty_kc7, c_task_end, Tryz.f156, I_kc7, mkI, I_kc6, ty_kcc, c_task_take, Tryz.f126, M_k38, I_kcc, ty_kc9, c_task_see, ci_task_see, Tryz.f127, M_ka8, I_kc9, ty_kc4, c_task_adjust, ci_task_adjust, Tryz.f128, M_k4d, M_k3c, I_kc4, ty_kc5, c_task_apply, Tryz.f129, M_kb1, M_kaa, I_kc5, ty_kc8, c_task_give, Tryz.f130, M_k36, I_kc8, mkI, h, h0]
    try rfl⟩
set_option maxHeartbeats 20000000 in
set_option maxRecDepth 100000 in
noncomputable def w_task_Step_p1 : { R : Task → Int → Sight → Option (Task × Sight × (List Event) × Bool) // ∀ (x0 : Task) (x1 : Int) (x2 : Sight) (h : F_kbf x0 x1 x2 = some true) (h0 : x0.phase = 1), F_kc3 x0 x1 x2 = R x0 x1 x2 } := ⟨_, fun x0 x1 x2 h h0 => by
    unfold F_kc3 Wfn
    simp only [Tryz.f50]
    unfold Wf
    simp (maxSteps := 10000000) (implicitDefEqProofs := false) [ty_kc3, c_task_Step, ci_task_Step, Tryz.f50, M_kbf, M_kca, iC, uC, bC, sC, Acc.c, Config.c, Event.c, Op.c, Plan.c, Pot.c, Result.c, Shard.c, Sight.c, Task.c, Tx.c, ty_kcb, c_task_steps, Tryz.f86, I_kcb, Wi, ty_kc6, c_task_begin, ci_task_begin, Tryz.f125, M_k3e, M_k3d, ty_kc7, c_task_end, Tryz.f156, I_kc7, mkI, I_kc6, ty_kcc, c_task_take, Tryz.f126, M_k38, I_kcc, ty_kc9, c_task_see, ci_task_see, Tryz.f127, M_ka8, I_kc9, ty_kc4, c_task_adjust, ci_task_adjust, Tryz.f128, M_k4d, M_k3c, I_kc4, ty_kc5, c_task_apply, Tryz.f129, M_kb1, M_kaa, I_kc5, ty_kc8, c_task_give, Tryz.f130, M_k36, I_kc8, mkI, h, h0]
    try rfl⟩
set_option maxHeartbeats 20000000 in
set_option maxRecDepth 100000 in
noncomputable def w_task_Step_p2 : { R : Task → Int → Sight → Option (Task × Sight × (List Event) × Bool) // ∀ (x0 : Task) (x1 : Int) (x2 : Sight) (h : F_kbf x0 x1 x2 = some true) (h0 : x0.phase = 2), F_kc3 x0 x1 x2 = R x0 x1 x2 } := ⟨_, fun x0 x1 x2 h h0 => by
    unfold F_kc3 Wfn
    simp only [Tryz.f50]
    unfold Wf
    simp (maxSteps := 10000000) (implicitDefEqProofs := false) [ty_kc3, c_task_Step, ci_task_Step, Tryz.f50, M_kbf, M_kca, iC, uC, bC, sC, Acc.c, Config.c, Event.c, Op.c, Plan.c, Pot.c, Result.c, Shard.c, Sight.c, Task.c, Tx.c, ty_kcb, c_task_steps, Tryz.f86, I_kcb, Wi, ty_kc6, c_task_begin, ci_task_begin, Tryz.f125, M_k3e, M_k3d, ty_kc7, c_task_end, Tryz.f156, I_kc7, mkI, I_kc6, ty_kcc, c_task_take, Tryz.f126, M_k38, I_kcc, ty_kc9, c_task_see, ci_task_see, Tryz.f127, M_ka8, I_kc9, ty_kc4, c_task_adjust, ci_task_adjust, Tryz.f128, M_k4d, M_k3c, I_kc4, ty_kc5, c_task_apply, Tryz.f129, M_kb1, M_kaa, I_kc5, ty_kc8, c_task_give, Tryz.f130, M_k36, I_kc8, mkI, h, h0]
    try rfl⟩
set_option maxHeartbeats 20000000 in
set_option maxRecDepth 100000 in
noncomputable def w_task_Step_p3 : { R : Task → Int → Sight → Option (Task × Sight × (List Event) × Bool) // ∀ (x0 : Task) (x1 : Int) (x2 : Sight) (h : F_kbf x0 x1 x2 = some true) (h0 : x0.phase = 3), F_kc3 x0 x1 x2 = R x0 x1 x2 } := ⟨_, fun x0 x1 x2 h h0 => by
    unfold F_kc3 Wfn
    simp only [Tryz.f50]
    unfold Wf
    simp (maxSteps := 10000000) (implicitDefEqProofs := false) [ty_kc3, c_task_Step, ci_task_Step, Tryz.f50, M_kbf, M_kca, iC, uC, bC, sC, Acc.c, Config.c, Event.c, Op.c, Plan.c, Pot.c, Result.c, Shard.c, Sight.c, Task.c, Tx.c, ty_kcb, c_task_steps, Tryz.f86, I_kcb, Wi, ty_kc6, c_task_begin, ci_task_begin, Tryz.f125, M_k3e, M_k3d, ty_kc7, c_task_end, Tryz.f156, I_kc7, mkI, I_kc6, ty_kcc, c_task_take, Tryz.f126, M_k38, I_kcc, ty_kc9, c_task_see, ci_task_see, Tryz.f127, M_ka8, I_kc9, ty_kc4, c_task_adjust, ci_task_adjust, Tryz.f128, M_k4d, M_k3c, I_kc4, ty_kc5, c_task_apply, Tryz.f129, M_kb1, M_kaa, I_kc5, ty_kc8, c_task_give, Tryz.f130, M_k36, I_kc8, mkI, h, h0]
    try rfl⟩
set_option maxHeartbeats 20000000 in
set_option maxRecDepth 100000 in
noncomputable def w_task_Step_p4 : { R : Task → Int → Sight → Option (Task × Sight × (List Event) × Bool) // ∀ (x0 : Task) (x1 : Int) (x2 : Sight) (h : F_kbf x0 x1 x2 = some true) (h0 : x0.phase = 4), F_kc3 x0 x1 x2 = R x0 x1 x2 } := ⟨_, fun x0 x1 x2 h h0 => by
    unfold F_kc3 Wfn
    simp only [Tryz.f50]
    unfold Wf
    simp (maxSteps := 10000000) (implicitDefEqProofs := false) [ty_kc3, c_task_Step, ci_task_Step, Tryz.f50, M_kbf, M_kca, iC, uC, bC, sC, Acc.c, Config.c, Event.c, Op.c, Plan.c, Pot.c, Result.c, Shard.c, Sight.c, Task.c, Tx.c, ty_kcb, c_task_steps, Tryz.f86, I_kcb, Wi, ty_kc6, c_task_begin, ci_task_begin, Tryz.f125, M_k3e, M_k3d, ty_kc7, c_task_end, Tryz.f156, I_kc7, mkI, I_kc6, ty_kcc, c_task_take, Tryz.f126, M_k38, I_kcc, ty_kc9, c_task_see, ci_task_see, Tryz.f127, M_ka8, I_kc9, ty_kc4, c_task_adjust, ci_task_adjust, Tryz.f128, M_k4d, M_k3c, I_kc4, ty_kc5, c_task_apply, Tryz.f129, M_kb1, M_kaa, I_kc5, ty_kc8, c_task_give, Tryz.f130, M_k36, I_kc8, mkI, h, h0]
    try rfl⟩
set_option maxHeartbeats 20000000 in
set_option maxRecDepth 100000 in
noncomputable def w_task_Step_p5 : { R : Task → Int → Sight → Option (Task × Sight × (List Event) × Bool) // ∀ (x0 : Task) (x1 : Int) (x2 : Sight) (h : F_kbf x0 x1 x2 = some true) (h0 : x0.phase = 5), F_kc3 x0 x1 x2 = R x0 x1 x2 } := ⟨_, fun x0 x1 x2 h h0 => by
    unfold F_kc3 Wfn
    simp only [Tryz.f50]
    unfold Wf
    simp (maxSteps := 10000000) (implicitDefEqProofs := false) [ty_kc3, c_task_Step, ci_task_Step, Tryz.f50, M_kbf, M_kca, iC, uC, bC, sC, Acc.c, Config.c, Event.c, Op.c, Plan.c, Pot.c, Result.c, Shard.c, Sight.c, Task.c, Tx.c, ty_kcb, c_task_steps, Tryz.f86, I_kcb, Wi, ty_kc6, c_task_begin, ci_task_begin, Tryz.f125, M_k3e, M_k3d, ty_kc7, c_task_end, Tryz.f156, I_kc7, mkI, I_kc6, ty_kcc, c_task_take, Tryz.f126, M_k38, I_kcc, ty_kc9, c_task_see, ci_task_see, Tryz.f127, M_ka8, I_kc9, ty_kc4, c_task_adjust, ci_task_adjust, Tryz.f128, M_k4d, M_k3c, I_kc4, ty_kc5, c_task_apply, Tryz.f129, M_kb1, M_kaa, I_kc5, ty_kc8, c_task_give, Tryz.f130, M_k36, I_kc8, mkI, h, h0]
    try rfl⟩

end Go.Vm

/- What Go functions come to, as Lean functions: each with its contract. -/
set_option linter.unusedVariables false
set_option linter.unusedSimpArgs false
namespace Go.Vm
open Go Go.RowKit Go.Proofs
attribute [-simp] env0 envI evOps evOne evOp evIndexAddr evIndex evPick binV evLoad evStore loadC callV nilC storeC toDVs toDAs resRs
attribute [local simp] List.lookup List.replicate List.range_succ env0_tree envI_tree

theorem en_kc2 : Enters Tryz.prog 80 := ⟨_, Tryz.func80, rfl, rfl⟩
def ty_kc2 : List (Nat × TI) := [ti23, ti100, ti3, ti97, ti98, ti113]
noncomputable def C_kc2 : Cfg := mkP (mkC ty_kc2 [] [(19, M_k48), (120, M_k37), (121, M_k4e)] [19, 121] [] [] [] [(5, [true, true, true, true, false, false, true, false, true])]) [(5, [1, 6])]
theorem E_kc2 : Env1 Tryz.prog C_kc2 := mkP_ok (mkC_ok (by kernel_rfl) (⟨⟨en_k48, cc_k48⟩, ⟨⟨en_k37, cc_k37⟩, ⟨⟨en_k4e, cc_k4e⟩, trivial⟩⟩⟩) (by kernel_rfl))
theorem c_task_Open : CIs (C_kc2) ty_kc2 [] [(19, M_k48), (120, M_k37), (121, M_k4e)] [19, 120, 121] [19, 121] [] [] [] [(5, [true, true, true, true, false, false, true, false, true])] [(5, [1, 6])] [] := ⟨rfl, rfl, rfl, rfl, rfl, rfl, rfl, rfl, rfl, rfl, rfl⟩
set_option maxHeartbeats 20000000 in
set_option maxRecDepth 100000 in
noncomputable def pk_kc2 : { F : Config → Option (Sight × Int) // CallC Tryz.prog 80 (con1 (eT ceConfig) (fun x0 => (F x0).map (res2 (rAgg ceSight) rI).enc)) } :=
  ⟨_, cc1 E_kc2 Tryz.func80 rfl rfl (T := []) (G := []) (r := (res2 (rAgg ceSight) rI)) fun x0 => by
    unfold Wf
    simp (maxSteps := 10000000) (implicitDefEqProofs := false) [ty_kc2, c_task_Open, Tryz.f80, M_k48, M_k37, M_k4e, iC, uC, bC, sC, Acc.c, Config.c, Pot.c, Shard.c, Sight.c, Tx.c]
    try rfl⟩
noncomputable def F_kc2 : Config → Option (Sight × Int) := pk_kc2.1
noncomputable def M_kc2 : List DA → Option (List RV) := con1 (eT ceConfig) (fun x0 => (F_kc2 x0).map (res2 (rAgg ceSight) rI).enc)
theorem cc_kc2 : CallC Tryz.prog 80 M_kc2 := pk_kc2.2

end Go.Vm
