/- What Go functions come to, as Lean functions: each with its contract. -/
import Derived.Test.YtaidpcnnggknnaaGreatVd
import Derived.Test.YtaidpcnnggknnaaGreatProg

set_option linter.unusedVariables false
set_option linter.unusedSimpArgs false
namespace Go.Vm
open Go Go.RowKit Go.Proofs
attribute [-simp] env0 envI evOps evOne evOp evIndexAddr evIndex evPick binV evLoad evStore loadC callV nilC storeC toDVs toDAs resRs
attribute [local simp] List.lookup List.replicate List.range_succ env0_tree envI_tree

theorem en_k0a : Enters Tryz.prog 181 := ⟨_, Tryz.func181, rfl, rfl⟩
def ty_k0a : List (Nat × TI) := [ti9, ti3, ti5, ti199]
noncomputable def C_k0a : Cfg := mkC ty_k0a [] [] [] [] [0,1,5] [] []
theorem E_k0a : Env1 Tryz.prog C_k0a := mkC_ok (by kernel_rfl) trivial (by kernel_rfl)
theorem c_fnv_Roll : CIs (C_k0a) ty_k0a [] [] [] [] [] [0,1,5] [] [] [] [] := ⟨rfl, rfl, rfl, rfl, rfl, rfl, rfl, rfl, rfl, rfl, rfl⟩
structure L_k0a_0 where
  h : Int
  s_ : ByteArray
  i : Int
def an_k0a_0 : Ann := mkAnn (σ := L_k0a_0) (lCons (vOne (cK .u64)) <| lCons (vOne cS) <| lSkip vUnk <| lSkip vUnk <| lSkip vUnk <| lCons (vOne cI) <| K8 <| lSkip vUnk <| lSkip vUnk <| lSkip vUnk <| lSkip vUnk <| lSkip vUnk <| lSkip vUnk <| lSkip vUnk <|  lNil) ( lNil)
  (fun a b => L_k0a_0.mk (a.1) (a.2.1) (a.2.2.1)) (fun s => (s.h, s.s_, s.i, ())) (fun s => (())) (fun a b => true) (fun _ _ _ => ⟨rfl, rfl⟩)
theorem an_k0a_0_c (C : Cfg) : an_k0a_0.c C = C := rfl
set_option maxRecDepth 100000 in
theorem an_k0a_0_st (s : an_k0a_0.σ) : an_k0a_0.st s = (toL 21 (.node (.node (.node (.node (.node (.node (.node (.node (.leaf (.v (.one (.d (.sc (.int .u64 (L_k0a_0.h s))))))) (.leaf (.v (.one (.d (.sc (.string (L_k0a_0.s_ s)))))))) (.leaf (.unk))) (.node (.node (.leaf (.unk)) (.leaf (.v (.one (.d (.sc (.int .i64 (L_k0a_0.i s)))))))) (.leaf (.unk)))) (.leaf (.unk))) (.leaf (.unk))) (.leaf (.unk))) (.leaf (.unk))) (.leaf (.unk))), []) := rfl
set_option maxHeartbeats 4000000 in
set_option maxRecDepth 100000 in
theorem an_k0a_0_un {β : Type} (h : Int) (s_ : ByteArray) (i : Int) (f_ : an_k0a_0.σ → Option β) : (an_k0a_0.un (.v (.one (.d (.sc (.int .u64 h)))) :: .v (.one (.d (.sc (.string s_)))) :: .unk :: .unk :: .unk :: .v (.one (.d (.sc (.int .i64 i)))) :: U8 (.unk :: .unk :: .unk :: .unk :: .unk :: .unk :: .unk :: [])) []).bind f_ = f_ (L_k0a_0.mk h s_ i) :=
  (mkAnn_un (σ := L_k0a_0) _ _ _ _ _ _ _ _ _ f_).trans (by simp (maxSteps := 10000000) [Option.bind_assoc, U8, U64, K8, K64])
set_option maxHeartbeats 20000000 in
set_option maxRecDepth 100000 in
noncomputable def pk_k0a : { F : Int → ByteArray → Option (Int) // CallC Tryz.prog 181 (con2 (eK .u64) eStr (fun x0 x1 => (F x0 x1).map (res1 (rK .u64)).enc)) } :=
  ⟨_, cc2 E_k0a Tryz.func181 rfl rfl (T := []) (G := [⟨0, 0, an_k0a_0⟩]) (r := (res1 (rK .u64))) fun x0 x1 => by
    unfold Wf
    simp (maxSteps := 10000000) (implicitDefEqProofs := false) [ty_k0a, c_fnv_Roll, Tryz.f181, an_k0a_0_st, an_k0a_0_un, an_k0a_0_c, iC, uC, bC, sC, splitL, findLabel]
    try rfl⟩
noncomputable def F_k0a : Int → ByteArray → Option (Int) := pk_k0a.1
noncomputable def M_k0a : List DA → Option (List RV) := con2 (eK .u64) eStr (fun x0 x1 => (F_k0a x0 x1).map (res1 (rK .u64)).enc)
theorem cc_k0a : CallC Tryz.prog 181 M_k0a := pk_k0a.2
theorem en_k09 : Enters Tryz.prog 155 := ⟨_, Tryz.func155, rfl, rfl⟩
def ty_k09 : List (Nat × TI) := [ti199, ti9]
noncomputable def C_k09 : Cfg := mkC ty_k09 [] [(181, M_k0a)] [181] [] [] [] []
theorem E_k09 : Env1 Tryz.prog C_k09 := mkC_ok (by kernel_rfl) (⟨⟨en_k0a, cc_k0a⟩, trivial⟩) (by kernel_rfl)
theorem c_fnv_Of : CIs (C_k09) ty_k09 [] [(181, M_k0a)] [181] [181] [] [] [] [] [] [] := ⟨rfl, rfl, rfl, rfl, rfl, rfl, rfl, rfl, rfl, rfl, rfl⟩
set_option maxHeartbeats 20000000 in
set_option maxRecDepth 100000 in
noncomputable def pk_k09 : { F : ByteArray → Option (Int) // CallC Tryz.prog 155 (con1 eStr (fun x0 => (F x0).map (res1 (rK .u64)).enc)) } :=
  ⟨_, cc1 E_k09 Tryz.func155 rfl rfl (T := []) (G := []) (r := (res1 (rK .u64))) fun x0 => by
    unfold Wf
    simp (maxSteps := 10000000) (implicitDefEqProofs := false) [ty_k09, c_fnv_Of, Tryz.f155, M_k0a, iC, uC, bC, sC]
    try rfl⟩
noncomputable def F_k09 : ByteArray → Option (Int) := pk_k09.1
noncomputable def M_k09 : List DA → Option (List RV) := con1 eStr (fun x0 => (F_k09 x0).map (res1 (rK .u64)).enc)
theorem cc_k09 : CallC Tryz.prog 155 M_k09 := pk_k09.2
theorem en_k0b : Enters Tryz.prog 123 := ⟨_, Tryz.func123, rfl, rfl⟩
def ty_k0b : List (Nat × TI) := [ti3, ti5, ti165, ti9, ti199]
noncomputable def C_k0b : Cfg := mkC ty_k0b [] [(155, M_k09)] [155] [] [] [] []
theorem E_k0b : Env1 Tryz.prog C_k0b := mkC_ok (by kernel_rfl) (⟨⟨en_k09, cc_k09⟩, trivial⟩) (by kernel_rfl)
theorem c_fnv_Shard : CIs (C_k0b) ty_k0b [] [(155, M_k09)] [155] [155] [] [] [] [] [] [] := ⟨rfl, rfl, rfl, rfl, rfl, rfl, rfl, rfl, rfl, rfl, rfl⟩
set_option maxHeartbeats 20000000 in
set_option maxRecDepth 100000 in
noncomputable def pk_k0b : { F : Int → Int → Option (Int) // CallC Tryz.prog 123 (con2 eInt eInt (fun x0 x1 => (F x0 x1).map (res1 rI).enc)) } :=
  ⟨_, cc2 E_k0b Tryz.func123 rfl rfl (T := []) (G := []) (r := (res1 rI)) fun x0 x1 => by
    unfold Wf
    simp (maxSteps := 10000000) (implicitDefEqProofs := false) [ty_k0b, c_fnv_Shard, Tryz.f123, M_k09, iC, uC, bC, sC]
    try rfl⟩
noncomputable def F_k0b : Int → Int → Option (Int) := pk_k0b.1
noncomputable def M_k0b : List DA → Option (List RV) := con2 eInt eInt (fun x0 x1 => (F_k0b x0 x1).map (res1 rI).enc)
theorem cc_k0b : CallC Tryz.prog 123 M_k0b := pk_k0b.2
theorem en_k5e : Enters Tryz.prog 180 := ⟨_, Tryz.func180, rfl, rfl⟩
def ty_k5e : List (Nat × TI) := [ti9, ti3, ti5, ti199]
noncomputable def C_k5e : Cfg := mkC ty_k5e [] [] [] [] [0,1,5] [] []
theorem E_k5e : Env1 Tryz.prog C_k5e := mkC_ok (by kernel_rfl) trivial (by kernel_rfl)
theorem c_r02_Roll : CIs (C_k5e) ty_k5e [] [] [] [] [] [0,1,5] [] [] [] [] := ⟨rfl, rfl, rfl, rfl, rfl, rfl, rfl, rfl, rfl, rfl, rfl⟩
structure L_k5e_0 where
  h : Int
  s_ : ByteArray
  i : Int
def an_k5e_0 : Ann := mkAnn (σ := L_k5e_0) (lCons (vOne (cK .u64)) <| lCons (vOne cS) <| lSkip vUnk <| lSkip vUnk <| lSkip vUnk <| lCons (vOne cI) <| K8 <| lSkip vUnk <| lSkip vUnk <| lSkip vUnk <| lSkip vUnk <| lSkip vUnk <| lSkip vUnk <|  lNil) ( lNil)
  (fun a b => L_k5e_0.mk (a.1) (a.2.1) (a.2.2.1)) (fun s => (s.h, s.s_, s.i, ())) (fun s => (())) (fun a b => true) (fun _ _ _ => ⟨rfl, rfl⟩)
theorem an_k5e_0_c (C : Cfg) : an_k5e_0.c C = C := rfl
set_option maxRecDepth 100000 in
theorem an_k5e_0_st (s : an_k5e_0.σ) : an_k5e_0.st s = (toL 20 (.node (.node (.node (.node (.node (.node (.node (.node (.leaf (.v (.one (.d (.sc (.int .u64 (L_k5e_0.h s))))))) (.leaf (.v (.one (.d (.sc (.string (L_k5e_0.s_ s)))))))) (.leaf (.unk))) (.node (.node (.leaf (.unk)) (.leaf (.v (.one (.d (.sc (.int .i64 (L_k5e_0.i s)))))))) (.leaf (.unk)))) (.leaf (.unk))) (.leaf (.unk))) (.leaf (.unk))) (.leaf (.unk))) (.leaf (.unk))), []) := rfl
set_option maxHeartbeats 4000000 in
set_option maxRecDepth 100000 in
theorem an_k5e_0_un {β : Type} (h : Int) (s_ : ByteArray) (i : Int) (f_ : an_k5e_0.σ → Option β) : (an_k5e_0.un (.v (.one (.d (.sc (.int .u64 h)))) :: .v (.one (.d (.sc (.string s_)))) :: .unk :: .unk :: .unk :: .v (.one (.d (.sc (.int .i64 i)))) :: U8 (.unk :: .unk :: .unk :: .unk :: .unk :: .unk :: [])) []).bind f_ = f_ (L_k5e_0.mk h s_ i) :=
  (mkAnn_un (σ := L_k5e_0) _ _ _ _ _ _ _ _ _ f_).trans (by simp (maxSteps := 10000000) [Option.bind_assoc, U8, U64, K8, K64])
def T_k5e : List (Nat × LoopA) := [(0, .ty an_k5e_0)]
set_option maxHeartbeats 20000000 in
set_option maxRecDepth 100000 in
noncomputable def pk_k5e : { F : Int → ByteArray → Option (Int) // CallC Tryz.prog 180 (con2 (eK .u64) eStr (fun x0 x1 => (F x0 x1).map (res1 (rK .u64)).enc)) } :=
  ⟨_, cc2 E_k5e Tryz.func180 rfl rfl (T := T_k5e) (G := []) (r := (res1 (rK .u64))) fun x0 x1 => by
    unfold Wf
    simp (maxSteps := 10000000) (implicitDefEqProofs := false) [ty_k5e, c_r02_Roll, T_k5e, Tryz.f180, an_k5e_0_st, an_k5e_0_un, an_k5e_0_c, iC, uC, bC, sC]
    try rfl⟩
noncomputable def F_k5e : Int → ByteArray → Option (Int) := pk_k5e.1
noncomputable def M_k5e : List DA → Option (List RV) := con2 (eK .u64) eStr (fun x0 x1 => (F_k5e x0 x1).map (res1 (rK .u64)).enc)
theorem cc_k5e : CallC Tryz.prog 180 M_k5e := pk_k5e.2
theorem en_k5d : Enters Tryz.prog 153 := ⟨_, Tryz.func153, rfl, rfl⟩
def ty_k5d : List (Nat × TI) := [ti199, ti9]
noncomputable def C_k5d : Cfg := mkC ty_k5d [] [(180, M_k5e)] [180] [] [] [] []
theorem E_k5d : Env1 Tryz.prog C_k5d := mkC_ok (by kernel_rfl) (⟨⟨en_k5e, cc_k5e⟩, trivial⟩) (by kernel_rfl)
theorem c_r02_Of : CIs (C_k5d) ty_k5d [] [(180, M_k5e)] [180] [180] [] [] [] [] [] [] := ⟨rfl, rfl, rfl, rfl, rfl, rfl, rfl, rfl, rfl, rfl, rfl⟩
set_option maxHeartbeats 20000000 in
set_option maxRecDepth 100000 in
noncomputable def pk_k5d : { F : ByteArray → Option (Int) // CallC Tryz.prog 153 (con1 eStr (fun x0 => (F x0).map (res1 (rK .u64)).enc)) } :=
  ⟨_, cc1 E_k5d Tryz.func153 rfl rfl (T := []) (G := []) (r := (res1 (rK .u64))) fun x0 => by
    unfold Wf
    simp (maxSteps := 10000000) (implicitDefEqProofs := false) [ty_k5d, c_r02_Of, Tryz.f153, M_k5e, iC, uC, bC, sC]
    try rfl⟩
noncomputable def F_k5d : ByteArray → Option (Int) := pk_k5d.1
noncomputable def M_k5d : List DA → Option (List RV) := con1 eStr (fun x0 => (F_k5d x0).map (res1 (rK .u64)).enc)
theorem cc_k5d : CallC Tryz.prog 153 M_k5d := pk_k5d.2
theorem en_k5f : Enters Tryz.prog 119 := ⟨_, Tryz.func119, rfl, rfl⟩
def ty_k5f : List (Nat × TI) := [ti3, ti5, ti165, ti9, ti199]
noncomputable def C_k5f : Cfg := mkC ty_k5f [] [(153, M_k5d)] [153] [] [] [] []
theorem E_k5f : Env1 Tryz.prog C_k5f := mkC_ok (by kernel_rfl) (⟨⟨en_k5d, cc_k5d⟩, trivial⟩) (by kernel_rfl)
theorem c_r02_Shard : CIs (C_k5f) ty_k5f [] [(153, M_k5d)] [153] [153] [] [] [] [] [] [] := ⟨rfl, rfl, rfl, rfl, rfl, rfl, rfl, rfl, rfl, rfl, rfl⟩
set_option maxHeartbeats 20000000 in
set_option maxRecDepth 100000 in
noncomputable def pk_k5f : { F : Int → Int → Option (Int) // CallC Tryz.prog 119 (con2 eInt eInt (fun x0 x1 => (F x0 x1).map (res1 rI).enc)) } :=
  ⟨_, cc2 E_k5f Tryz.func119 rfl rfl (T := []) (G := []) (r := (res1 rI)) fun x0 x1 => by
    unfold Wf
    simp (maxSteps := 10000000) (implicitDefEqProofs := false) [ty_k5f, c_r02_Shard, Tryz.f119, M_k5d, iC, uC, bC, sC]
    try rfl⟩
noncomputable def F_k5f : Int → Int → Option (Int) := pk_k5f.1
noncomputable def M_k5f : List DA → Option (List RV) := con2 eInt eInt (fun x0 x1 => (F_k5f x0 x1).map (res1 rI).enc)
theorem cc_k5f : CallC Tryz.prog 119 M_k5f := pk_k5f.2

end Go.Vm

/- What Go functions come to, as Lean functions: each with its contract. -/
set_option linter.unusedVariables false
set_option linter.unusedSimpArgs false
namespace Go.Vm
open Go Go.RowKit Go.Proofs
attribute [-simp] env0 envI evOps evOne evOp evIndexAddr evIndex evPick binV evLoad evStore loadC callV nilC storeC toDVs toDAs resRs
attribute [local simp] List.lookup List.replicate List.range_succ env0_tree envI_tree

theorem en_k39 : Enters Tryz.prog 124 := ⟨_, Tryz.func124, rfl, rfl⟩
def ty_k39 : List (Nat × TI) := [ti3, ti96]
noncomputable def C_k39 : Cfg := mkC ty_k39 [] [] [] [] [] [] []
theorem E_k39 : Env1 Tryz.prog C_k39 := mkC_ok (by kernel_rfl) trivial (by kernel_rfl)
theorem c_lock_is : CIs (C_k39) ty_k39 [] [] [] [] [] [] [] [] [] [] := ⟨rfl, rfl, rfl, rfl, rfl, rfl, rfl, rfl, rfl, rfl, rfl⟩
set_option maxHeartbeats 20000000 in
set_option maxRecDepth 100000 in
noncomputable def pk_k39 : { F : (List Int) → Int → Option (Bool) // CallC Tryz.prog 124 (con2 (eL ceI) eInt (fun x0 x1 => (F x0 x1).map (res1 rB).enc)) } :=
  ⟨_, cc2 E_k39 Tryz.func124 rfl rfl (T := []) (G := []) (r := (res1 rB)) fun x0 x1 => by
    unfold Wf
    simp (maxSteps := 10000000) (implicitDefEqProofs := false) [ty_k39, c_lock_is, Tryz.f124, iC, uC, bC, sC]
    try rfl⟩
noncomputable def F_k39 : (List Int) → Int → Option (Bool) := pk_k39.1
noncomputable def M_k39 : List DA → Option (List RV) := con2 (eL ceI) eInt (fun x0 x1 => (F_k39 x0 x1).map (res1 rB).enc)
theorem cc_k39 : CallC Tryz.prog 124 M_k39 := pk_k39.2
theorem en_k35 : Enters Tryz.prog 85 := ⟨_, Tryz.func85, rfl, rfl⟩
def ty_k35 : List (Nat × TI) := [ti96, ti3]
noncomputable def C_k35 : Cfg := mkC ty_k35 [] [(124, M_k39)] [124] [] [] [] []
theorem E_k35 : Env1 Tryz.prog C_k35 := mkC_ok (by kernel_rfl) (⟨⟨en_k39, cc_k39⟩, trivial⟩) (by kernel_rfl)
theorem c_lock_Free : CIs (C_k35) ty_k35 [] [(124, M_k39)] [124] [124] [] [] [] [] [] [] := ⟨rfl, rfl, rfl, rfl, rfl, rfl, rfl, rfl, rfl, rfl, rfl⟩
set_option maxHeartbeats 20000000 in
set_option maxRecDepth 100000 in
noncomputable def pk_k35 : { F : (List Int) → Int → Option (Bool) // CallC Tryz.prog 85 (con2 (eL ceI) eInt (fun x0 x1 => (F x0 x1).map (res1 rB).enc)) } :=
  ⟨_, cc2 E_k35 Tryz.func85 rfl rfl (T := []) (G := []) (r := (res1 rB)) fun x0 x1 => by
    unfold Wf
    simp (maxSteps := 10000000) (implicitDefEqProofs := false) [ty_k35, c_lock_Free, Tryz.f85, M_k39, iC, uC, bC, sC]
    try rfl⟩
noncomputable def F_k35 : (List Int) → Int → Option (Bool) := pk_k35.1
noncomputable def M_k35 : List DA → Option (List RV) := con2 (eL ceI) eInt (fun x0 x1 => (F_k35 x0 x1).map (res1 rB).enc)
theorem cc_k35 : CallC Tryz.prog 85 M_k35 := pk_k35.2
theorem en_kb2 : Enters Tryz.prog 194 := ⟨_, Tryz.func194, rfl, rfl⟩
def ty_kb2 : List (Nat × TI) := [ti96, ti3]
noncomputable def C_kb2 : Cfg := mkC ty_kb2 [] [] [] [(2, [(0, 3, 1)])] [] [0] []
theorem E_kb2 : Env1 Tryz.prog C_kb2 := mkC_ok (by kernel_rfl) trivial (by kernel_rfl)
theorem c_slices_Clone_Table : CIs (C_kb2) ty_kb2 [] [] [] [] [(2, [(0, 3, 1)])] [] [0] [] [] [] := ⟨rfl, rfl, rfl, rfl, rfl, rfl, rfl, rfl, rfl, rfl, rfl⟩
set_option maxHeartbeats 20000000 in
set_option maxRecDepth 100000 in
noncomputable def pk_kb2 : { F : (List Int) → Option ((List Int)) // CallC Tryz.prog 194 (con1 (eL ceI) (fun x0 => (F x0).map (res1 (rOwn 3 1 ceI)).enc)) } :=
  ⟨_, cc1 E_kb2 Tryz.func194 rfl rfl (T := []) (G := []) (r := (res1 (rOwn 3 1 ceI))) fun x0 => by
    unfold Wf
    simp (maxSteps := 10000000) (implicitDefEqProofs := false) [ty_kb2, c_slices_Clone_Table, Tryz.f194, iC, uC, bC, sC]
    try rfl⟩
noncomputable def F_kb2 : (List Int) → Option ((List Int)) := pk_kb2.1
noncomputable def M_kb2 : List DA → Option (List RV) := con1 (eL ceI) (fun x0 => (F_kb2 x0).map (res1 (rOwn 3 1 ceI)).enc)
theorem cc_kb2 : CallC Tryz.prog 194 M_kb2 := pk_kb2.2
theorem en_k3a : Enters Tryz.prog 182 := ⟨_, Tryz.func182, rfl, rfl⟩
def ty_k3a : List (Nat × TI) := [ti96, ti3]
noncomputable def C_k3a : Cfg := mkC ty_k3a [] [(194, M_kb2)] [] [(6, [(0, 3, 1)])] [] [] []
theorem E_k3a : Env1 Tryz.prog C_k3a := mkC_ok (by kernel_rfl) (⟨⟨en_kb2, cc_kb2⟩, trivial⟩) (by kernel_rfl)
theorem c_lock_set : CIs (C_k3a) ty_k3a [] [(194, M_kb2)] [194] [] [(6, [(0, 3, 1)])] [] [] [] [] [] := ⟨rfl, rfl, rfl, rfl, rfl, rfl, rfl, rfl, rfl, rfl, rfl⟩
set_option maxHeartbeats 20000000 in
set_option maxRecDepth 100000 in
noncomputable def pk_k3a : { F : (List Int) → Int → Int → Option ((List Int)) // CallC Tryz.prog 182 (con3 (eL ceI) eInt eInt (fun x0 x1 x2 => (F x0 x1 x2).map (res1 (rSl ceI)).enc)) } :=
  ⟨_, cc3 E_k3a Tryz.func182 rfl rfl (T := []) (G := []) (r := (res1 (rSl ceI))) fun x0 x1 x2 => by
    unfold Wf
    simp (maxSteps := 10000000) (implicitDefEqProofs := false) [ty_k3a, c_lock_set, Tryz.f182, M_kb2, iC, uC, bC, sC, Nat.mod_one]
    try rfl⟩
noncomputable def F_k3a : (List Int) → Int → Int → Option ((List Int)) := pk_k3a.1
noncomputable def M_k3a : List DA → Option (List RV) := con3 (eL ceI) eInt eInt (fun x0 x1 x2 => (F_k3a x0 x1 x2).map (res1 (rSl ceI)).enc)
theorem cc_k3a : CallC Tryz.prog 182 M_k3a := pk_k3a.2
theorem en_k38 : Enters Tryz.prog 157 := ⟨_, Tryz.func157, rfl, rfl⟩
def ty_k38 : List (Nat × TI) := [ti96, ti3]
noncomputable def C_k38 : Cfg := mkC ty_k38 [] [(124, M_k39), (85, M_k35), (182, M_k3a)] [124, 85] [(6, [(0, 3, 1)])] [] [] []
theorem E_k38 : Env1 Tryz.prog C_k38 := mkC_ok (by kernel_rfl) (⟨⟨en_k39, cc_k39⟩, ⟨⟨en_k35, cc_k35⟩, ⟨⟨en_k3a, cc_k3a⟩, trivial⟩⟩⟩) (by kernel_rfl)
theorem c_lock_Take : CIs (C_k38) ty_k38 [] [(124, M_k39), (85, M_k35), (182, M_k3a)] [124, 85, 182] [124, 85] [(6, [(0, 3, 1)])] [] [] [] [] [] := ⟨rfl, rfl, rfl, rfl, rfl, rfl, rfl, rfl, rfl, rfl, rfl⟩
set_option maxHeartbeats 20000000 in
set_option maxRecDepth 100000 in
noncomputable def pk_k38 : { F : (List Int) → Int → Int → Option ((List Int) × Int) // CallC Tryz.prog 157 (con3 (eL ceI) eInt eInt (fun x0 x1 x2 => (F x0 x1 x2).map (res2 (rSl ceI) rI).enc)) } :=
  ⟨_, cc3 E_k38 Tryz.func157 rfl rfl (T := []) (G := []) (r := (res2 (rSl ceI) rI)) fun x0 x1 x2 => by
    unfold Wf
    simp (maxSteps := 10000000) (implicitDefEqProofs := false) [ty_k38, c_lock_Take, Tryz.f157, M_k39, M_k35, M_k3a, iC, uC, bC, sC]
    try rfl⟩
noncomputable def F_k38 : (List Int) → Int → Int → Option ((List Int) × Int) := pk_k38.1
noncomputable def M_k38 : List DA → Option (List RV) := con3 (eL ceI) eInt eInt (fun x0 x1 x2 => (F_k38 x0 x1 x2).map (res2 (rSl ceI) rI).enc)
theorem cc_k38 : CallC Tryz.prog 157 M_k38 := pk_k38.2
theorem en_k36 : Enters Tryz.prog 160 := ⟨_, Tryz.func160, rfl, rfl⟩
def ty_k36 : List (Nat × TI) := [ti96, ti3]
noncomputable def C_k36 : Cfg := mkC ty_k36 [] [(124, M_k39), (182, M_k3a)] [124] [(6, [(0, 3, 1)])] [] [] []
theorem E_k36 : Env1 Tryz.prog C_k36 := mkC_ok (by kernel_rfl) (⟨⟨en_k39, cc_k39⟩, ⟨⟨en_k3a, cc_k3a⟩, trivial⟩⟩) (by kernel_rfl)
theorem c_lock_Give : CIs (C_k36) ty_k36 [] [(124, M_k39), (182, M_k3a)] [124, 182] [124] [(6, [(0, 3, 1)])] [] [] [] [] [] := ⟨rfl, rfl, rfl, rfl, rfl, rfl, rfl, rfl, rfl, rfl, rfl⟩
set_option maxHeartbeats 20000000 in
set_option maxRecDepth 100000 in
noncomputable def pk_k36 : { F : (List Int) → Int → Int → Option ((List Int) × Int) // CallC Tryz.prog 160 (con3 (eL ceI) eInt eInt (fun x0 x1 x2 => (F x0 x1 x2).map (res2 (rSl ceI) rI).enc)) } :=
  ⟨_, cc3 E_k36 Tryz.func160 rfl rfl (T := []) (G := []) (r := (res2 (rSl ceI) rI)) fun x0 x1 x2 => by
    unfold Wf
    simp (maxSteps := 10000000) (implicitDefEqProofs := false) [ty_k36, c_lock_Give, Tryz.f160, M_k39, M_k3a, iC, uC, bC, sC]
    try rfl⟩
noncomputable def F_k36 : (List Int) → Int → Int → Option ((List Int) × Int) := pk_k36.1
noncomputable def M_k36 : List DA → Option (List RV) := con3 (eL ceI) eInt eInt (fun x0 x1 x2 => (F_k36 x0 x1 x2).map (res2 (rSl ceI) rI).enc)
theorem cc_k36 : CallC Tryz.prog 160 M_k36 := pk_k36.2
theorem en_k37 : Enters Tryz.prog 120 := ⟨_, Tryz.func120, rfl, rfl⟩
def ty_k37 : List (Nat × TI) := [ti96, ti3]
noncomputable def C_k37 : Cfg := mkC ty_k37 [] [] [] [(2, [(0, 3, 1)])] [] [] []
theorem E_k37 : Env1 Tryz.prog C_k37 := mkC_ok (by kernel_rfl) trivial (by kernel_rfl)
theorem c_lock_New : CIs (C_k37) ty_k37 [] [] [] [] [(2, [(0, 3, 1)])] [] [] [] [] [] := ⟨rfl, rfl, rfl, rfl, rfl, rfl, rfl, rfl, rfl, rfl, rfl⟩
set_option maxHeartbeats 20000000 in
set_option maxRecDepth 100000 in
noncomputable def pk_k37 : { F : Int → Option ((List Int) × Int) // CallC Tryz.prog 120 (con1 eInt (fun x0 => (F x0).map (res2 (rSl ceI) rI).enc)) } :=
  ⟨_, cc1 E_k37 Tryz.func120 rfl rfl (T := []) (G := []) (r := (res2 (rSl ceI) rI)) fun x0 => by
    unfold Wf
    simp (maxSteps := 10000000) (implicitDefEqProofs := false) [ty_k37, c_lock_New, Tryz.f120, iC, uC, bC, sC]
    try rfl⟩
noncomputable def F_k37 : Int → Option ((List Int) × Int) := pk_k37.1
noncomputable def M_k37 : List DA → Option (List RV) := con1 eInt (fun x0 => (F_k37 x0).map (res2 (rSl ceI) rI).enc)
theorem cc_k37 : CallC Tryz.prog 120 M_k37 := pk_k37.2

end Go.Vm

/- What Go functions come to, as Lean functions: each with its contract. -/
set_option linter.unusedVariables false
set_option linter.unusedSimpArgs false
namespace Go.Vm
open Go Go.RowKit Go.Proofs
attribute [-simp] env0 envI evOps evOne evOp evIndexAddr evIndex evPick binV evLoad evStore loadC callV nilC storeC toDVs toDAs resRs
attribute [local simp] List.lookup List.replicate List.range_succ env0_tree envI_tree

theorem en_k4f : Enters Tryz.prog 183 := ⟨_, Tryz.func183, rfl, rfl⟩
def ty_k4f : List (Nat × TI) := [ti97, ti3]
noncomputable def C_k4f : Cfg := mkC ty_k4f [] [] [] [] [] [] []
theorem E_k4f : Env1 Tryz.prog C_k4f := mkC_ok (by kernel_rfl) trivial (by kernel_rfl)
theorem c_pot_may : CIs (C_k4f) ty_k4f [] [] [] [] [] [] [] [] [] [] := ⟨rfl, rfl, rfl, rfl, rfl, rfl, rfl, rfl, rfl, rfl, rfl⟩
set_option maxHeartbeats 20000000 in
set_option maxRecDepth 100000 in
noncomputable def pk_k4f : { F : Pot → Option (Bool) // CallC Tryz.prog 183 (con1 (eT cePot) (fun x0 => (F x0).map (res1 rB).enc)) } :=
  ⟨_, cc1 E_k4f Tryz.func183 rfl rfl (T := []) (G := []) (r := (res1 rB)) fun x0 => by
    unfold Wf
    simp (maxSteps := 10000000) (implicitDefEqProofs := false) [ty_k4f, c_pot_may, Tryz.f183, iC, uC, bC, sC, Pot.c]
    try rfl⟩
noncomputable def F_k4f : Pot → Option (Bool) := pk_k4f.1
noncomputable def M_k4f : List DA → Option (List RV) := con1 (eT cePot) (fun x0 => (F_k4f x0).map (res1 rB).enc)
theorem cc_k4f : CallC Tryz.prog 183 M_k4f := pk_k4f.2
theorem en_k4e : Enters Tryz.prog 121 := ⟨_, Tryz.func121, rfl, rfl⟩
def ty_k4e : List (Nat × TI) := [ti97, ti3]
noncomputable def C_k4e : Cfg := mkC ty_k4e [] [] [] [] [] [] []
theorem E_k4e : Env1 Tryz.prog C_k4e := mkC_ok (by kernel_rfl) trivial (by kernel_rfl)
theorem c_pot_New : CIs (C_k4e) ty_k4e [] [] [] [] [] [] [] [] [] [] := ⟨rfl, rfl, rfl, rfl, rfl, rfl, rfl, rfl, rfl, rfl, rfl⟩
set_option maxHeartbeats 20000000 in
set_option maxRecDepth 100000 in
noncomputable def pk_k4e : { F : Int → Option (Pot × Int) // CallC Tryz.prog 121 (con1 eInt (fun x0 => (F x0).map (res2 (rAgg cePot) rI).enc)) } :=
  ⟨_, cc1 E_k4e Tryz.func121 rfl rfl (T := []) (G := []) (r := (res2 (rAgg cePot) rI)) fun x0 => by
    unfold Wf
    simp (maxSteps := 10000000) (implicitDefEqProofs := false) [ty_k4e, c_pot_New, Tryz.f121, iC, uC, bC, sC, Pot.c]
    try rfl⟩
noncomputable def F_k4e : Int → Option (Pot × Int) := pk_k4e.1
noncomputable def M_k4e : List DA → Option (List RV) := con1 eInt (fun x0 => (F_k4e x0).map (res2 (rAgg cePot) rI).enc)
theorem cc_k4e : CallC Tryz.prog 121 M_k4e := pk_k4e.2
theorem en_ka4 : Enters Tryz.prog 184 := ⟨_, Tryz.func184, rfl, rfl⟩
def ty_ka4 : List (Nat × TI) := [ti3]
noncomputable def C_ka4 : Cfg := mkC ty_ka4 [] [] [] [] [] [] []
theorem E_ka4 : Env1 Tryz.prog C_ka4 := mkC_ok (by kernel_rfl) trivial (by kernel_rfl)
theorem c_sat_Add : CIs (C_ka4) ty_ka4 [] [] [] [] [] [] [] [] [] [] := ⟨rfl, rfl, rfl, rfl, rfl, rfl, rfl, rfl, rfl, rfl, rfl⟩
set_option maxHeartbeats 20000000 in
set_option maxRecDepth 100000 in
noncomputable def pk_ka4 : { F : Int → Int → Int → Option (Int × Bool) // CallC Tryz.prog 184 (con3 eInt eInt eInt (fun x0 x1 x2 => (F x0 x1 x2).map (res2 rI rB).enc)) } :=
  ⟨_, cc3 E_ka4 Tryz.func184 rfl rfl (T := []) (G := []) (r := (res2 rI rB)) fun x0 x1 x2 => by
    unfold Wf
    simp (maxSteps := 10000000) (implicitDefEqProofs := false) [ty_ka4, c_sat_Add, Tryz.f184, iC, uC, bC, sC]
    try rfl⟩
noncomputable def F_ka4 : Int → Int → Int → Option (Int × Bool) := pk_ka4.1
noncomputable def M_ka4 : List DA → Option (List RV) := con3 eInt eInt eInt (fun x0 x1 x2 => (F_ka4 x0 x1 x2).map (res2 rI rB).enc)
theorem cc_ka4 : CallC Tryz.prog 184 M_ka4 := pk_ka4.2
theorem en_k4d : Enters Tryz.prog 158 := ⟨_, Tryz.func158, rfl, rfl⟩
def ty_k4d : List (Nat × TI) := [ti97, ti3]
noncomputable def C_k4d : Cfg := mkC ty_k4d [] [(183, M_k4f), (184, M_ka4)] [183, 184] [] [] [] []
theorem E_k4d : Env1 Tryz.prog C_k4d := mkC_ok (by kernel_rfl) (⟨⟨en_k4f, cc_k4f⟩, ⟨⟨en_ka4, cc_ka4⟩, trivial⟩⟩) (by kernel_rfl)
theorem c_pot_Adjust : CIs (C_k4d) ty_k4d [] [(183, M_k4f), (184, M_ka4)] [183, 184] [183, 184] [] [] [] [] [] [] := ⟨rfl, rfl, rfl, rfl, rfl, rfl, rfl, rfl, rfl, rfl, rfl⟩
set_option maxHeartbeats 20000000 in
set_option maxRecDepth 100000 in
noncomputable def pk_k4d : { F : Pot → Int → Option (Pot × Int) // CallC Tryz.prog 158 (con2 (eT cePot) eInt (fun x0 x1 => (F x0 x1).map (res2 (rAgg cePot) rI).enc)) } :=
  ⟨_, cc2 E_k4d Tryz.func158 rfl rfl (T := []) (G := []) (r := (res2 (rAgg cePot) rI)) fun x0 x1 => by
    unfold Wf
    simp (maxSteps := 10000000) (implicitDefEqProofs := false) [ty_k4d, c_pot_Adjust, Tryz.f158, M_k4f, M_ka4, iC, uC, bC, sC, Pot.c]
    try rfl⟩
noncomputable def F_k4d : Pot → Int → Option (Pot × Int) := pk_k4d.1
noncomputable def M_k4d : List DA → Option (List RV) := con2 (eT cePot) eInt (fun x0 x1 => (F_k4d x0 x1).map (res2 (rAgg cePot) rI).enc)
theorem cc_k4d : CallC Tryz.prog 158 M_k4d := pk_k4d.2

end Go.Vm

/- What Go functions come to, as Lean functions: each with its contract. -/
set_option linter.unusedVariables false
set_option linter.unusedSimpArgs false
namespace Go.Vm
open Go Go.RowKit Go.Proofs
attribute [-simp] env0 envI evOps evOne evOp evIndexAddr evIndex evPick binV evLoad evStore loadC callV nilC storeC toDVs toDAs resRs
attribute [local simp] List.lookup List.replicate List.range_succ env0_tree envI_tree

theorem en_k4c : Enters Tryz.prog 60 := ⟨_, Tryz.func60, rfl, rfl⟩
def ty_k4c : List (Nat × TI) := [ti3]
noncomputable def C_k4c : Cfg := mkC ty_k4c [] [] [] [] [] [] []
theorem E_k4c : Env1 Tryz.prog C_k4c := mkC_ok (by kernel_rfl) trivial (by kernel_rfl)
theorem c_pool_in : CIs (C_k4c) ty_k4c [] [] [] [] [] [] [] [] [] [] := ⟨rfl, rfl, rfl, rfl, rfl, rfl, rfl, rfl, rfl, rfl, rfl⟩
set_option maxHeartbeats 20000000 in
set_option maxRecDepth 100000 in
noncomputable def pk_k4c : { F : Int → Int → Int → Option (Bool) // CallC Tryz.prog 60 (con3 eInt eInt eInt (fun x0 x1 x2 => (F x0 x1 x2).map (res1 rB).enc)) } :=
  ⟨_, cc3 E_k4c Tryz.func60 rfl rfl (T := []) (G := []) (r := (res1 rB)) fun x0 x1 x2 => by
    unfold Wf
    simp (maxSteps := 10000000) (implicitDefEqProofs := false) [ty_k4c, c_pool_in, Tryz.f60, iC, uC, bC, sC]
    try rfl⟩
noncomputable def F_k4c : Int → Int → Int → Option (Bool) := pk_k4c.1
noncomputable def M_k4c : List DA → Option (List RV) := con3 eInt eInt eInt (fun x0 x1 x2 => (F_k4c x0 x1 x2).map (res1 rB).enc)
theorem cc_k4c : CallC Tryz.prog 60 M_k4c := pk_k4c.2
theorem en_k48 : Enters Tryz.prog 19 := ⟨_, Tryz.func19, rfl, rfl⟩
def ty_k48 : List (Nat × TI) := [ti23, ti3]
noncomputable def C_k48 : Cfg := mkC ty_k48 [] [(60, M_k4c)] [60] [] [] [] []
theorem E_k48 : Env1 Tryz.prog C_k48 := mkC_ok (by kernel_rfl) (⟨⟨en_k4c, cc_k4c⟩, trivial⟩) (by kernel_rfl)
theorem c_pool_Config : CIs (C_k48) ty_k48 [] [(60, M_k4c)] [60] [60] [] [] [] [] [] [] := ⟨rfl, rfl, rfl, rfl, rfl, rfl, rfl, rfl, rfl, rfl, rfl⟩
set_option maxHeartbeats 20000000 in
set_option maxRecDepth 100000 in
noncomputable def pk_k48 : { F : Config → Option (Bool) // CallC Tryz.prog 19 (con1 (eT ceConfig) (fun x0 => (F x0).map (res1 rB).enc)) } :=
  ⟨_, cc1 E_k48 Tryz.func19 rfl rfl (T := []) (G := []) (r := (res1 rB)) fun x0 => by
    unfold Wf
    simp (maxSteps := 10000000) (implicitDefEqProofs := false) [ty_k48, c_pool_Config, Tryz.f19, M_k4c, iC, uC, bC, sC, Config.c]
    try rfl⟩
noncomputable def F_k48 : Config → Option (Bool) := pk_k48.1
noncomputable def M_k48 : List DA → Option (List RV) := con1 (eT ceConfig) (fun x0 => (F_k48 x0).map (res1 rB).enc)
theorem cc_k48 : CallC Tryz.prog 19 M_k48 := pk_k48.2

end Go.Vm

/- What Go functions come to, as Lean functions: each with its contract. -/
set_option linter.unusedVariables false
set_option linter.unusedSimpArgs false
namespace Go.Vm
open Go Go.RowKit Go.Proofs
attribute [-simp] env0 envI evOps evOne evOp evIndexAddr evIndex evPick binV evLoad evStore loadC callV nilC storeC toDVs toDAs resRs
attribute [local simp] List.lookup List.replicate List.range_succ env0_tree envI_tree

theorem en_kaf : Enters Tryz.prog 154 := ⟨_, Tryz.func154, rfl, rfl⟩
def ty_kaf : List (Nat × TI) := [ti65, ti3, ti32, ti31]
noncomputable def C_kaf : Cfg := mkC ty_kaf [] [] [] [] [] [] []
theorem E_kaf : Env1 Tryz.prog C_kaf := mkC_ok (by kernel_rfl) trivial (by kernel_rfl)
theorem c_shard_empty : CIs (C_kaf) ty_kaf [] [] [] [] [] [] [] [] [] [] := ⟨rfl, rfl, rfl, rfl, rfl, rfl, rfl, rfl, rfl, rfl, rfl⟩
set_option maxHeartbeats 20000000 in
set_option maxRecDepth 100000 in
noncomputable def pk_kaf : { F : Acc → Option (Bool) // CallC Tryz.prog 154 (con1 (eT ceAcc) (fun x0 => (F x0).map (res1 rB).enc)) } :=
  ⟨_, cc1 E_kaf Tryz.func154 rfl rfl (T := []) (G := []) (r := (res1 rB)) fun x0 => by
    unfold Wf
    simp (maxSteps := 10000000) (implicitDefEqProofs := false) [ty_kaf, c_shard_empty, Tryz.f154, iC, uC, bC, sC, Acc.c, Tx.c]
    try rfl⟩
noncomputable def F_kaf : Acc → Option (Bool) := pk_kaf.1
noncomputable def M_kaf : List DA → Option (List RV) := con1 (eT ceAcc) (fun x0 => (F_kaf x0).map (res1 rB).enc)
theorem cc_kaf : CallC Tryz.prog 154 M_kaf := pk_kaf.2
theorem en_k83 : Enters Tryz.prog 68 := ⟨_, Tryz.func68, rfl, rfl⟩
def ty_k83 : List (Nat × TI) := [ti65, ti3, ti32, ti31]
noncomputable def C_k83 : Cfg := mkC ty_k83 [] [] [] [] [] [] []
theorem E_k83 : Env1 Tryz.prog C_k83 := mkC_ok (by kernel_rfl) trivial (by kernel_rfl)
theorem c_r11_empty : CIs (C_k83) ty_k83 [] [] [] [] [] [] [] [] [] [] := ⟨rfl, rfl, rfl, rfl, rfl, rfl, rfl, rfl, rfl, rfl, rfl⟩
set_option maxHeartbeats 20000000 in
set_option maxRecDepth 100000 in
noncomputable def pk_k83 : { F : Acc → Option (Bool) // CallC Tryz.prog 68 (con1 (eT ceAcc) (fun x0 => (F x0).map (res1 rB).enc)) } :=
  ⟨_, cc1 E_k83 Tryz.func68 rfl rfl (T := []) (G := []) (r := (res1 rB)) fun x0 => by
    unfold Wf
    simp (maxSteps := 10000000) (implicitDefEqProofs := false) [ty_k83, c_r11_empty, Tryz.f68, iC, uC, bC, sC, Acc.c, Tx.c]
    try rfl⟩
noncomputable def F_k83 : Acc → Option (Bool) := pk_k83.1
noncomputable def M_k83 : List DA → Option (List RV) := con1 (eT ceAcc) (fun x0 => (F_k83 x0).map (res1 rB).enc)
theorem cc_k83 : CallC Tryz.prog 68 M_k83 := pk_k83.2

end Go.Vm

/- What Go functions come to, as Lean functions: each with its contract. -/
set_option linter.unusedVariables false
set_option linter.unusedSimpArgs false
namespace Go.Vm
open Go Go.RowKit Go.Proofs
attribute [-simp] env0 envI evOps evOne evOp evIndexAddr evIndex evPick binV evLoad evStore loadC callV nilC storeC toDVs toDAs resRs
attribute [local simp] List.lookup List.replicate List.range_succ env0_tree envI_tree


end Go.Vm

/- What Go functions come to, as Lean functions: each with its contract. -/
set_option linter.unusedVariables false
set_option linter.unusedSimpArgs false
namespace Go.Vm
open Go Go.RowKit Go.Proofs
attribute [-simp] env0 envI evOps evOne evOp evIndexAddr evIndex evPick binV evLoad evStore loadC callV nilC storeC toDVs toDAs resRs
attribute [local simp] List.lookup List.replicate List.range_succ env0_tree envI_tree

theorem en_kc1 : Enters Tryz.prog 47 := ⟨_, Tryz.func47, rfl, rfl⟩
def ty_kc1 : List (Nat × TI) := [ti38, ti94]
noncomputable def C_kc1 : Cfg := mkC ty_kc1 [] [] [] [] [] [] []
theorem E_kc1 : Env1 Tryz.prog C_kc1 := mkC_ok (by kernel_rfl) trivial (by kernel_rfl)
theorem c_task_New : CIs (C_kc1) ty_kc1 [] [] [] [] [] [] [] [] [] [] := ⟨rfl, rfl, rfl, rfl, rfl, rfl, rfl, rfl, rfl, rfl, rfl⟩
set_option maxHeartbeats 20000000 in
set_option maxRecDepth 100000 in
noncomputable def pk_kc1 : { F : Op → Option (Task) // CallC Tryz.prog 47 (con1 (eT ceOp) (fun x0 => (F x0).map (res1 (rAgg ceTask)).enc)) } :=
  ⟨_, cc1 E_kc1 Tryz.func47 rfl rfl (T := []) (G := []) (r := (res1 (rAgg ceTask))) fun x0 => by
    unfold Wf
    simp (maxSteps := 10000000) (implicitDefEqProofs := false) [ty_kc1, c_task_New, Tryz.f47, iC, uC, bC, sC, Acc.c, Event.c, Op.c, Plan.c, Result.c, Task.c, Tx.c]
    try rfl⟩
noncomputable def F_kc1 : Op → Option (Task) := pk_kc1.1
noncomputable def M_kc1 : List DA → Option (List RV) := con1 (eT ceOp) (fun x0 => (F_kc1 x0).map (res1 (rAgg ceTask)).enc)
theorem cc_kc1 : CallC Tryz.prog 47 M_kc1 := pk_kc1.2

end Go.Vm

/- What Go functions come to, as Lean functions: each with its contract. -/
set_option linter.unusedVariables false
set_option linter.unusedSimpArgs false
namespace Go.Vm
open Go Go.RowKit Go.Proofs
attribute [-simp] env0 envI evOps evOne evOp evIndexAddr evIndex evPick binV evLoad evStore loadC callV nilC storeC toDVs toDAs resRs
attribute [local simp] List.lookup List.replicate List.range_succ env0_tree envI_tree

theorem en_k8a : Enters Tryz.prog 20 := ⟨_, Tryz.func20, rfl, rfl⟩
def ty_k8a : List (Nat × TI) := [ti23, ti3]
noncomputable def C_k8a : Cfg := mkC ty_k8a [] [] [] [] [] [] []
theorem E_k8a : Env1 Tryz.prog C_k8a := mkC_ok (by kernel_rfl) trivial (by kernel_rfl)
theorem c_r13_Config : CIs (C_k8a) ty_k8a [] [] [] [] [] [] [] [] [] [] := ⟨rfl, rfl, rfl, rfl, rfl, rfl, rfl, rfl, rfl, rfl, rfl⟩
set_option maxHeartbeats 20000000 in
set_option maxRecDepth 100000 in
noncomputable def pk_k8a : { F : Config → Option (Bool) // CallC Tryz.prog 20 (con1 (eT ceConfig) (fun x0 => (F x0).map (res1 rB).enc)) } :=
  ⟨_, cc1 E_k8a Tryz.func20 rfl rfl (T := []) (G := []) (r := (res1 rB)) fun x0 => by
    unfold Wf
    simp (maxSteps := 10000000) (implicitDefEqProofs := false) [ty_k8a, c_r13_Config, Tryz.f20, iC, uC, bC, sC, Config.c]
    try rfl⟩
noncomputable def F_k8a : Config → Option (Bool) := pk_k8a.1
noncomputable def M_k8a : List DA → Option (List RV) := con1 (eT ceConfig) (fun x0 => (F_k8a x0).map (res1 rB).enc)
theorem cc_k8a : CallC Tryz.prog 20 M_k8a := pk_k8a.2

end Go.Vm
