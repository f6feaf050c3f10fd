/- What Go functions come to, as Lean functions: each with its contract. -/
import Derived.Test.YtmdccbecmilljaaGreatVd
import Derived.Test.YtmdccbecmilljaaGreatProg

set_option linter.unusedVariables false
set_option linter.unusedSimpArgs false
namespace Go.Vm
open Go Go.RowKit

theorem en_k0a : Enters Go.Proofs.Tryz.prog 74 := ⟨_, Go.Proofs.Tryz.func74, rfl, rfl⟩
def ty_k0a : List (Nat × TI) := [(9, { size := 1, bytes := 16, agg := false, zero := [.sc (.string "".toByteArray)], kind := .str }), (3, { size := 1, bytes := 8, agg := false, zero := [.sc (.int .i64 0)], kind := .int .i64 }), (5, { size := 1, bytes := 1, agg := false, zero := [.sc (.int .u8 0)], kind := .int .u8 }), (112, { size := 1, bytes := 8, agg := false, zero := [.sc (.int .u64 0)], kind := .int .u64 })]
noncomputable def C_k0a : Cfg := mkC ty_k0a [] [] [] [] [0,1,5] [] []
theorem E_k0a : Env1 Go.Proofs.Tryz.prog C_k0a := mkC_ok (by kernel_rfl) trivial (by kernel_rfl)
theorem C_k0a_ty : (C_k0a).ty = ty_k0a := rfl
theorem C_k0a_eqs : (C_k0a).eqs = [] := rfl
theorem C_k0a_call : (C_k0a).call = fun f => (([] : List (Nat × (List DA → Option (List RV)))).lookup f).getD fun _ => none := rfl
theorem C_k0a_calls : (C_k0a).calls = [] := rfl
theorem C_k0a_scal : (C_k0a).scal = [] := rfl
theorem C_k0a_owns : (C_k0a).owns = [] := rfl
theorem C_k0a_vars : (C_k0a).vars = [0,1,5] := rfl
theorem C_k0a_ores : (C_k0a).ores = [] := rfl
theorem C_k0a_flags : (C_k0a).flags = [] := rfl
theorem C_k0a_pins : (C_k0a).pins = [] := rfl
theorem C_k0a_inls : (C_k0a).inls = [] := rfl
structure L_k0a_0 where
  h : Int
  s_ : ByteArray
  i : Int
def an_k0a_0 : Ann := mkAnn (σ := L_k0a_0) (lCons (vOne (cK .u64)) <| lCons (vOne cS) <| lSkip vUnk <| lSkip vUnk <| lSkip vUnk <| lCons (vOne cI) <| lSkip vUnk <| lSkip vUnk <| lSkip vUnk <| lSkip vUnk <| lSkip vUnk <| lSkip vUnk <| lSkip vUnk <| lSkip vUnk <| lSkip vUnk <| lSkip vUnk <| lSkip vUnk <| lSkip vUnk <| lSkip vUnk <| lSkip vUnk <| lSkip vUnk <|  lNil) ( lNil)
  (fun a b => L_k0a_0.mk (a.1) (a.2.1) (a.2.2.1)) (fun s => (s.h, s.s_, s.i, ())) (fun s => (())) (fun a b => true) (fun _ _ _ => ⟨rfl, rfl⟩)
set_option maxRecDepth 100000 in
theorem an_k0a_0_st (s : an_k0a_0.σ) : an_k0a_0.st s = (toL 21 (.node (.node (.node (.node (.node (.node (.node (.node (.leaf (.v (.one (.d (.sc (.int .u64 (L_k0a_0.h s))))))) (.leaf (.v (.one (.d (.sc (.string (L_k0a_0.s_ s)))))))) (.leaf (.unk))) (.node (.node (.leaf (.unk)) (.leaf (.v (.one (.d (.sc (.int .i64 (L_k0a_0.i s)))))))) (.leaf (.unk)))) (.leaf (.unk))) (.leaf (.unk))) (.leaf (.unk))) (.leaf (.unk))) (.leaf (.unk))), []) := rfl
set_option maxHeartbeats 4000000 in
set_option maxRecDepth 100000 in
theorem an_k0a_0_un {β : Type} (h : Int) (s_ : ByteArray) (i : Int) (f_ : an_k0a_0.σ → Option β) : (an_k0a_0.un [.v (.one (.d (.sc (.int .u64 h)))), .v (.one (.d (.sc (.string s_)))), .unk, .unk, .unk, .v (.one (.d (.sc (.int .i64 i)))), .unk, .unk, .unk, .unk, .unk, .unk, .unk, .unk, .unk, .unk, .unk, .unk, .unk, .unk, .unk] []).bind f_ = f_ (L_k0a_0.mk h s_ i) :=
  (mkAnn_un (σ := L_k0a_0) _ _ _ _ _ _ _ _ _ f_).trans (by simp (maxSteps := 10000000) [Option.bind_assoc])
def T_k0a : List (Nat × LoopA) := []
set_option maxHeartbeats 20000000 in
set_option maxRecDepth 100000 in
noncomputable def pk_k0a : { F : Int → ByteArray → Option (Int) // CallC Go.Proofs.Tryz.prog 74 (con2 (eK .u64) eStr (fun x0 x1 => (F x0 x1).map (res1 (rK .u64)).enc)) } :=
  ⟨_, cc2 E_k0a Go.Proofs.Tryz.func74 rfl rfl (T := T_k0a) (G := [⟨0, 0, an_k0a_0⟩]) (r := (res1 (rK .u64))) fun x0 x1 => by
    unfold Wf
    simp (maxSteps := 10000000) (implicitDefEqProofs := false) [-env0, -envI, env0_tree, envI_tree, -evOps, -evOne, -evOp, -evIndexAddr, -evIndex, -evPick, -binV, -evLoad, -evStore, -loadC, -callV, -nilC, -storeC, -toDVs, -toDAs, -resRs, List.lookup, List.replicate, List.range_succ, ty_k0a, C_k0a_ty, C_k0a_eqs, C_k0a_call, C_k0a_calls, C_k0a_scal, C_k0a_owns, C_k0a_vars, C_k0a_ores, C_k0a_flags, C_k0a_pins, C_k0a_inls, T_k0a, Go.Proofs.Tryz.f74, an_k0a_0_st, an_k0a_0_un, iC, uC, bC, sC, splitL, findLabel]
    try rfl⟩
noncomputable def F_k0a : Int → ByteArray → Option (Int) := pk_k0a.1
noncomputable def M_k0a : List DA → Option (List RV) := con2 (eK .u64) eStr (fun x0 x1 => (F_k0a x0 x1).map (res1 (rK .u64)).enc)
theorem cc_k0a : CallC Go.Proofs.Tryz.prog 74 M_k0a := pk_k0a.2
theorem en_k09 : Enters Go.Proofs.Tryz.prog 60 := ⟨_, Go.Proofs.Tryz.func60, rfl, rfl⟩
def ty_k09 : List (Nat × TI) := [(112, { size := 1, bytes := 8, agg := false, zero := [.sc (.int .u64 0)], kind := .int .u64 }), (9, { size := 1, bytes := 16, agg := false, zero := [.sc (.string "".toByteArray)], kind := .str })]
noncomputable def C_k09 : Cfg := mkC ty_k09 [] [(74, M_k0a)] [74] [] [] [] []
theorem E_k09 : Env1 Go.Proofs.Tryz.prog C_k09 := mkC_ok (by kernel_rfl) (⟨⟨en_k0a, cc_k0a⟩, trivial⟩) (by kernel_rfl)
theorem C_k09_ty : (C_k09).ty = ty_k09 := rfl
theorem C_k09_eqs : (C_k09).eqs = [] := rfl
theorem C_k09_call : (C_k09).call = fun f => (([(74, M_k0a)] : List (Nat × (List DA → Option (List RV)))).lookup f).getD fun _ => none := rfl
theorem C_k09_calls : (C_k09).calls = [74] := rfl
theorem C_k09_scal : (C_k09).scal = [74] := rfl
theorem C_k09_owns : (C_k09).owns = [] := rfl
theorem C_k09_vars : (C_k09).vars = [] := rfl
theorem C_k09_ores : (C_k09).ores = [] := rfl
theorem C_k09_flags : (C_k09).flags = [] := rfl
theorem C_k09_pins : (C_k09).pins = [] := rfl
theorem C_k09_inls : (C_k09).inls = [] := rfl
def T_k09 : List (Nat × LoopA) := []
set_option maxHeartbeats 20000000 in
set_option maxRecDepth 100000 in
noncomputable def pk_k09 : { F : ByteArray → Option (Int) // CallC Go.Proofs.Tryz.prog 60 (con1 eStr (fun x0 => (F x0).map (res1 (rK .u64)).enc)) } :=
  ⟨_, cc1 E_k09 Go.Proofs.Tryz.func60 rfl rfl (T := T_k09) (G := []) (r := (res1 (rK .u64))) fun x0 => by
    unfold Wf
    simp (maxSteps := 10000000) (implicitDefEqProofs := false) [-env0, -envI, env0_tree, envI_tree, -evOps, -evOne, -evOp, -evIndexAddr, -evIndex, -evPick, -binV, -evLoad, -evStore, -loadC, -callV, -nilC, -storeC, -toDVs, -toDAs, -resRs, List.lookup, List.replicate, List.range_succ, ty_k09, C_k09_ty, C_k09_eqs, C_k09_call, C_k09_calls, C_k09_scal, C_k09_owns, C_k09_vars, C_k09_ores, C_k09_flags, C_k09_pins, C_k09_inls, T_k09, Go.Proofs.Tryz.f60, M_k0a, iC, uC, bC, sC]
    try rfl⟩
noncomputable def F_k09 : ByteArray → Option (Int) := pk_k09.1
noncomputable def M_k09 : List DA → Option (List RV) := con1 eStr (fun x0 => (F_k09 x0).map (res1 (rK .u64)).enc)
theorem cc_k09 : CallC Go.Proofs.Tryz.prog 60 M_k09 := pk_k09.2
theorem en_k0b : Enters Go.Proofs.Tryz.prog 44 := ⟨_, Go.Proofs.Tryz.func44, rfl, rfl⟩
def ty_k0b : List (Nat × TI) := [(3, { size := 1, bytes := 8, agg := false, zero := [.sc (.int .i64 0)], kind := .int .i64 }), (5, { size := 1, bytes := 1, agg := false, zero := [.sc (.int .u8 0)], kind := .int .u8 }), (114, { size := 1, bytes := 24, agg := false, zero := [.sl []], kind := .slice 5 }), (9, { size := 1, bytes := 16, agg := false, zero := [.sc (.string "".toByteArray)], kind := .str }), (112, { size := 1, bytes := 8, agg := false, zero := [.sc (.int .u64 0)], kind := .int .u64 })]
noncomputable def C_k0b : Cfg := mkC ty_k0b [] [(60, M_k09)] [60] [] [] [] []
theorem E_k0b : Env1 Go.Proofs.Tryz.prog C_k0b := mkC_ok (by kernel_rfl) (⟨⟨en_k09, cc_k09⟩, trivial⟩) (by kernel_rfl)
theorem C_k0b_ty : (C_k0b).ty = ty_k0b := rfl
theorem C_k0b_eqs : (C_k0b).eqs = [] := rfl
theorem C_k0b_call : (C_k0b).call = fun f => (([(60, M_k09)] : List (Nat × (List DA → Option (List RV)))).lookup f).getD fun _ => none := rfl
theorem C_k0b_calls : (C_k0b).calls = [60] := rfl
theorem C_k0b_scal : (C_k0b).scal = [60] := rfl
theorem C_k0b_owns : (C_k0b).owns = [] := rfl
theorem C_k0b_vars : (C_k0b).vars = [] := rfl
theorem C_k0b_ores : (C_k0b).ores = [] := rfl
theorem C_k0b_flags : (C_k0b).flags = [] := rfl
theorem C_k0b_pins : (C_k0b).pins = [] := rfl
theorem C_k0b_inls : (C_k0b).inls = [] := rfl
def T_k0b : List (Nat × LoopA) := []
set_option maxHeartbeats 20000000 in
set_option maxRecDepth 100000 in
noncomputable def pk_k0b : { F : Int → Int → Option (Int) // CallC Go.Proofs.Tryz.prog 44 (con2 eInt eInt (fun x0 x1 => (F x0 x1).map (res1 rI).enc)) } :=
  ⟨_, cc2 E_k0b Go.Proofs.Tryz.func44 rfl rfl (T := T_k0b) (G := []) (r := (res1 rI)) fun x0 x1 => by
    unfold Wf
    simp (maxSteps := 10000000) (implicitDefEqProofs := false) [-env0, -envI, env0_tree, envI_tree, -evOps, -evOne, -evOp, -evIndexAddr, -evIndex, -evPick, -binV, -evLoad, -evStore, -loadC, -callV, -nilC, -storeC, -toDVs, -toDAs, -resRs, List.lookup, List.replicate, List.range_succ, ty_k0b, C_k0b_ty, C_k0b_eqs, C_k0b_call, C_k0b_calls, C_k0b_scal, C_k0b_owns, C_k0b_vars, C_k0b_ores, C_k0b_flags, C_k0b_pins, C_k0b_inls, T_k0b, Go.Proofs.Tryz.f44, M_k09, iC, uC, bC, sC]
    try rfl⟩
noncomputable def F_k0b : Int → Int → Option (Int) := pk_k0b.1
noncomputable def M_k0b : List DA → Option (List RV) := con2 eInt eInt (fun x0 x1 => (F_k0b x0 x1).map (res1 rI).enc)
theorem cc_k0b : CallC Go.Proofs.Tryz.prog 44 M_k0b := pk_k0b.2
theorem en_k3d : Enters Go.Proofs.Tryz.prog 71 := ⟨_, Go.Proofs.Tryz.func71, rfl, rfl⟩
def ty_k3d : List (Nat × TI) := [(9, { size := 1, bytes := 16, agg := false, zero := [.sc (.string "".toByteArray)], kind := .str }), (3, { size := 1, bytes := 8, agg := false, zero := [.sc (.int .i64 0)], kind := .int .i64 }), (5, { size := 1, bytes := 1, agg := false, zero := [.sc (.int .u8 0)], kind := .int .u8 }), (112, { size := 1, bytes := 8, agg := false, zero := [.sc (.int .u64 0)], kind := .int .u64 })]
noncomputable def C_k3d : Cfg := mkC ty_k3d [] [] [] [] [0,1,5] [] []
theorem E_k3d : Env1 Go.Proofs.Tryz.prog C_k3d := mkC_ok (by kernel_rfl) trivial (by kernel_rfl)
theorem C_k3d_ty : (C_k3d).ty = ty_k3d := rfl
theorem C_k3d_eqs : (C_k3d).eqs = [] := rfl
theorem C_k3d_call : (C_k3d).call = fun f => (([] : List (Nat × (List DA → Option (List RV)))).lookup f).getD fun _ => none := rfl
theorem C_k3d_calls : (C_k3d).calls = [] := rfl
theorem C_k3d_scal : (C_k3d).scal = [] := rfl
theorem C_k3d_owns : (C_k3d).owns = [] := rfl
theorem C_k3d_vars : (C_k3d).vars = [0,1,5] := rfl
theorem C_k3d_ores : (C_k3d).ores = [] := rfl
theorem C_k3d_flags : (C_k3d).flags = [] := rfl
theorem C_k3d_pins : (C_k3d).pins = [] := rfl
theorem C_k3d_inls : (C_k3d).inls = [] := rfl
structure L_k3d_0 where
  h : Int
  s_ : ByteArray
  i : Int
def an_k3d_0 : Ann := mkAnn (σ := L_k3d_0) (lCons (vOne (cK .u64)) <| lCons (vOne cS) <| lSkip vUnk <| lSkip vUnk <| lSkip vUnk <| lCons (vOne cI) <| lSkip vUnk <| lSkip vUnk <| lSkip vUnk <| lSkip vUnk <| lSkip vUnk <| lSkip vUnk <| lSkip vUnk <| lSkip vUnk <| lSkip vUnk <| lSkip vUnk <| lSkip vUnk <| lSkip vUnk <| lSkip vUnk <| lSkip vUnk <|  lNil) ( lNil)
  (fun a b => L_k3d_0.mk (a.1) (a.2.1) (a.2.2.1)) (fun s => (s.h, s.s_, s.i, ())) (fun s => (())) (fun a b => true) (fun _ _ _ => ⟨rfl, rfl⟩)
set_option maxRecDepth 100000 in
theorem an_k3d_0_st (s : an_k3d_0.σ) : an_k3d_0.st s = (toL 20 (.node (.node (.node (.node (.node (.node (.node (.node (.leaf (.v (.one (.d (.sc (.int .u64 (L_k3d_0.h s))))))) (.leaf (.v (.one (.d (.sc (.string (L_k3d_0.s_ s)))))))) (.leaf (.unk))) (.node (.node (.leaf (.unk)) (.leaf (.v (.one (.d (.sc (.int .i64 (L_k3d_0.i s)))))))) (.leaf (.unk)))) (.leaf (.unk))) (.leaf (.unk))) (.leaf (.unk))) (.leaf (.unk))) (.leaf (.unk))), []) := rfl
set_option maxHeartbeats 4000000 in
set_option maxRecDepth 100000 in
theorem an_k3d_0_un {β : Type} (h : Int) (s_ : ByteArray) (i : Int) (f_ : an_k3d_0.σ → Option β) : (an_k3d_0.un [.v (.one (.d (.sc (.int .u64 h)))), .v (.one (.d (.sc (.string s_)))), .unk, .unk, .unk, .v (.one (.d (.sc (.int .i64 i)))), .unk, .unk, .unk, .unk, .unk, .unk, .unk, .unk, .unk, .unk, .unk, .unk, .unk, .unk] []).bind f_ = f_ (L_k3d_0.mk h s_ i) :=
  (mkAnn_un (σ := L_k3d_0) _ _ _ _ _ _ _ _ _ f_).trans (by simp (maxSteps := 10000000) [Option.bind_assoc])
def T_k3d : List (Nat × LoopA) := [(0, .ty an_k3d_0)]
set_option maxHeartbeats 20000000 in
set_option maxRecDepth 100000 in
noncomputable def pk_k3d : { F : Int → ByteArray → Option (Int) // CallC Go.Proofs.Tryz.prog 71 (con2 (eK .u64) eStr (fun x0 x1 => (F x0 x1).map (res1 (rK .u64)).enc)) } :=
  ⟨_, cc2 E_k3d Go.Proofs.Tryz.func71 rfl rfl (T := T_k3d) (G := []) (r := (res1 (rK .u64))) fun x0 x1 => by
    unfold Wf
    simp (maxSteps := 10000000) (implicitDefEqProofs := false) [-env0, -envI, env0_tree, envI_tree, -evOps, -evOne, -evOp, -evIndexAddr, -evIndex, -evPick, -binV, -evLoad, -evStore, -loadC, -callV, -nilC, -storeC, -toDVs, -toDAs, -resRs, List.lookup, List.replicate, List.range_succ, ty_k3d, C_k3d_ty, C_k3d_eqs, C_k3d_call, C_k3d_calls, C_k3d_scal, C_k3d_owns, C_k3d_vars, C_k3d_ores, C_k3d_flags, C_k3d_pins, C_k3d_inls, T_k3d, Go.Proofs.Tryz.f71, an_k3d_0_st, an_k3d_0_un, iC, uC, bC, sC]
    try rfl⟩
noncomputable def F_k3d : Int → ByteArray → Option (Int) := pk_k3d.1
noncomputable def M_k3d : List DA → Option (List RV) := con2 (eK .u64) eStr (fun x0 x1 => (F_k3d x0 x1).map (res1 (rK .u64)).enc)
theorem cc_k3d : CallC Go.Proofs.Tryz.prog 71 M_k3d := pk_k3d.2
theorem en_k3c : Enters Go.Proofs.Tryz.prog 55 := ⟨_, Go.Proofs.Tryz.func55, rfl, rfl⟩
def ty_k3c : List (Nat × TI) := [(112, { size := 1, bytes := 8, agg := false, zero := [.sc (.int .u64 0)], kind := .int .u64 }), (9, { size := 1, bytes := 16, agg := false, zero := [.sc (.string "".toByteArray)], kind := .str })]
noncomputable def C_k3c : Cfg := mkC ty_k3c [] [(71, M_k3d)] [71] [] [] [] []
theorem E_k3c : Env1 Go.Proofs.Tryz.prog C_k3c := mkC_ok (by kernel_rfl) (⟨⟨en_k3d, cc_k3d⟩, trivial⟩) (by kernel_rfl)
theorem C_k3c_ty : (C_k3c).ty = ty_k3c := rfl
theorem C_k3c_eqs : (C_k3c).eqs = [] := rfl
theorem C_k3c_call : (C_k3c).call = fun f => (([(71, M_k3d)] : List (Nat × (List DA → Option (List RV)))).lookup f).getD fun _ => none := rfl
theorem C_k3c_calls : (C_k3c).calls = [71] := rfl
theorem C_k3c_scal : (C_k3c).scal = [71] := rfl
theorem C_k3c_owns : (C_k3c).owns = [] := rfl
theorem C_k3c_vars : (C_k3c).vars = [] := rfl
theorem C_k3c_ores : (C_k3c).ores = [] := rfl
theorem C_k3c_flags : (C_k3c).flags = [] := rfl
theorem C_k3c_pins : (C_k3c).pins = [] := rfl
theorem C_k3c_inls : (C_k3c).inls = [] := rfl
def T_k3c : List (Nat × LoopA) := []
set_option maxHeartbeats 20000000 in
set_option maxRecDepth 100000 in
noncomputable def pk_k3c : { F : ByteArray → Option (Int) // CallC Go.Proofs.Tryz.prog 55 (con1 eStr (fun x0 => (F x0).map (res1 (rK .u64)).enc)) } :=
  ⟨_, cc1 E_k3c Go.Proofs.Tryz.func55 rfl rfl (T := T_k3c) (G := []) (r := (res1 (rK .u64))) fun x0 => by
    unfold Wf
    simp (maxSteps := 10000000) (implicitDefEqProofs := false) [-env0, -envI, env0_tree, envI_tree, -evOps, -evOne, -evOp, -evIndexAddr, -evIndex, -evPick, -binV, -evLoad, -evStore, -loadC, -callV, -nilC, -storeC, -toDVs, -toDAs, -resRs, List.lookup, List.replicate, List.range_succ, ty_k3c, C_k3c_ty, C_k3c_eqs, C_k3c_call, C_k3c_calls, C_k3c_scal, C_k3c_owns, C_k3c_vars, C_k3c_ores, C_k3c_flags, C_k3c_pins, C_k3c_inls, T_k3c, Go.Proofs.Tryz.f55, M_k3d, iC, uC, bC, sC]
    try rfl⟩
noncomputable def F_k3c : ByteArray → Option (Int) := pk_k3c.1
noncomputable def M_k3c : List DA → Option (List RV) := con1 eStr (fun x0 => (F_k3c x0).map (res1 (rK .u64)).enc)
theorem cc_k3c : CallC Go.Proofs.Tryz.prog 55 M_k3c := pk_k3c.2
theorem en_k3e : Enters Go.Proofs.Tryz.prog 36 := ⟨_, Go.Proofs.Tryz.func36, rfl, rfl⟩
def ty_k3e : List (Nat × TI) := [(3, { size := 1, bytes := 8, agg := false, zero := [.sc (.int .i64 0)], kind := .int .i64 }), (5, { size := 1, bytes := 1, agg := false, zero := [.sc (.int .u8 0)], kind := .int .u8 }), (114, { size := 1, bytes := 24, agg := false, zero := [.sl []], kind := .slice 5 }), (9, { size := 1, bytes := 16, agg := false, zero := [.sc (.string "".toByteArray)], kind := .str }), (112, { size := 1, bytes := 8, agg := false, zero := [.sc (.int .u64 0)], kind := .int .u64 })]
noncomputable def C_k3e : Cfg := mkC ty_k3e [] [(55, M_k3c)] [55] [] [] [] []
theorem E_k3e : Env1 Go.Proofs.Tryz.prog C_k3e := mkC_ok (by kernel_rfl) (⟨⟨en_k3c, cc_k3c⟩, trivial⟩) (by kernel_rfl)
theorem C_k3e_ty : (C_k3e).ty = ty_k3e := rfl
theorem C_k3e_eqs : (C_k3e).eqs = [] := rfl
theorem C_k3e_call : (C_k3e).call = fun f => (([(55, M_k3c)] : List (Nat × (List DA → Option (List RV)))).lookup f).getD fun _ => none := rfl
theorem C_k3e_calls : (C_k3e).calls = [55] := rfl
theorem C_k3e_scal : (C_k3e).scal = [55] := rfl
theorem C_k3e_owns : (C_k3e).owns = [] := rfl
theorem C_k3e_vars : (C_k3e).vars = [] := rfl
theorem C_k3e_ores : (C_k3e).ores = [] := rfl
theorem C_k3e_flags : (C_k3e).flags = [] := rfl
theorem C_k3e_pins : (C_k3e).pins = [] := rfl
theorem C_k3e_inls : (C_k3e).inls = [] := rfl
def T_k3e : List (Nat × LoopA) := []
set_option maxHeartbeats 20000000 in
set_option maxRecDepth 100000 in
noncomputable def pk_k3e : { F : Int → Int → Option (Int) // CallC Go.Proofs.Tryz.prog 36 (con2 eInt eInt (fun x0 x1 => (F x0 x1).map (res1 rI).enc)) } :=
  ⟨_, cc2 E_k3e Go.Proofs.Tryz.func36 rfl rfl (T := T_k3e) (G := []) (r := (res1 rI)) fun x0 x1 => by
    unfold Wf
    simp (maxSteps := 10000000) (implicitDefEqProofs := false) [-env0, -envI, env0_tree, envI_tree, -evOps, -evOne, -evOp, -evIndexAddr, -evIndex, -evPick, -binV, -evLoad, -evStore, -loadC, -callV, -nilC, -storeC, -toDVs, -toDAs, -resRs, List.lookup, List.replicate, List.range_succ, ty_k3e, C_k3e_ty, C_k3e_eqs, C_k3e_call, C_k3e_calls, C_k3e_scal, C_k3e_owns, C_k3e_vars, C_k3e_ores, C_k3e_flags, C_k3e_pins, C_k3e_inls, T_k3e, Go.Proofs.Tryz.f36, M_k3c, iC, uC, bC, sC]
    try rfl⟩
noncomputable def F_k3e : Int → Int → Option (Int) := pk_k3e.1
noncomputable def M_k3e : List DA → Option (List RV) := con2 eInt eInt (fun x0 x1 => (F_k3e x0 x1).map (res1 rI).enc)
theorem cc_k3e : CallC Go.Proofs.Tryz.prog 36 M_k3e := pk_k3e.2

end Go.Vm

/- What Go functions come to, as Lean functions: each with its contract. -/
set_option linter.unusedVariables false
set_option linter.unusedSimpArgs false
namespace Go.Vm
open Go Go.RowKit

theorem en_k1d : Enters Go.Proofs.Tryz.prog 45 := ⟨_, Go.Proofs.Tryz.func45, rfl, rfl⟩
def ty_k1d : List (Nat × TI) := [(3, { size := 1, bytes := 8, agg := false, zero := [.sc (.int .i64 0)], kind := .int .i64 }), (50, { size := 1, bytes := 24, agg := false, zero := [.sl []], kind := .slice 3 })]
noncomputable def C_k1d : Cfg := mkC ty_k1d [] [] [] [] [] [] []
theorem E_k1d : Env1 Go.Proofs.Tryz.prog C_k1d := mkC_ok (by kernel_rfl) trivial (by kernel_rfl)
theorem C_k1d_ty : (C_k1d).ty = ty_k1d := rfl
theorem C_k1d_eqs : (C_k1d).eqs = [] := rfl
theorem C_k1d_call : (C_k1d).call = fun f => (([] : List (Nat × (List DA → Option (List RV)))).lookup f).getD fun _ => none := rfl
theorem C_k1d_calls : (C_k1d).calls = [] := rfl
theorem C_k1d_scal : (C_k1d).scal = [] := rfl
theorem C_k1d_owns : (C_k1d).owns = [] := rfl
theorem C_k1d_vars : (C_k1d).vars = [] := rfl
theorem C_k1d_ores : (C_k1d).ores = [] := rfl
theorem C_k1d_flags : (C_k1d).flags = [] := rfl
theorem C_k1d_pins : (C_k1d).pins = [] := rfl
theorem C_k1d_inls : (C_k1d).inls = [] := rfl
def T_k1d : List (Nat × LoopA) := []
set_option maxHeartbeats 20000000 in
set_option maxRecDepth 100000 in
noncomputable def pk_k1d : { F : (List Int) → Int → Option (Bool) // CallC Go.Proofs.Tryz.prog 45 (con2 (eL ceI) eInt (fun x0 x1 => (F x0 x1).map (res1 rB).enc)) } :=
  ⟨_, cc2 E_k1d Go.Proofs.Tryz.func45 rfl rfl (T := T_k1d) (G := []) (r := (res1 rB)) fun x0 x1 => by
    unfold Wf
    simp (maxSteps := 10000000) (implicitDefEqProofs := false) [-env0, -envI, env0_tree, envI_tree, -evOps, -evOne, -evOp, -evIndexAddr, -evIndex, -evPick, -binV, -evLoad, -evStore, -loadC, -callV, -nilC, -storeC, -toDVs, -toDAs, -resRs, List.lookup, List.replicate, List.range_succ, ty_k1d, C_k1d_ty, C_k1d_eqs, C_k1d_call, C_k1d_calls, C_k1d_scal, C_k1d_owns, C_k1d_vars, C_k1d_ores, C_k1d_flags, C_k1d_pins, C_k1d_inls, T_k1d, Go.Proofs.Tryz.f45, iC, uC, bC, sC]
    try rfl⟩
noncomputable def F_k1d : (List Int) → Int → Option (Bool) := pk_k1d.1
noncomputable def M_k1d : List DA → Option (List RV) := con2 (eL ceI) eInt (fun x0 x1 => (F_k1d x0 x1).map (res1 rB).enc)
theorem cc_k1d : CallC Go.Proofs.Tryz.prog 45 M_k1d := pk_k1d.2
theorem en_k19 : Enters Go.Proofs.Tryz.prog 26 := ⟨_, Go.Proofs.Tryz.func26, rfl, rfl⟩
def ty_k19 : List (Nat × TI) := [(50, { size := 1, bytes := 24, agg := false, zero := [.sl []], kind := .slice 3 }), (3, { size := 1, bytes := 8, agg := false, zero := [.sc (.int .i64 0)], kind := .int .i64 })]
noncomputable def C_k19 : Cfg := mkC ty_k19 [] [(45, M_k1d)] [45] [] [] [] []
theorem E_k19 : Env1 Go.Proofs.Tryz.prog C_k19 := mkC_ok (by kernel_rfl) (⟨⟨en_k1d, cc_k1d⟩, trivial⟩) (by kernel_rfl)
theorem C_k19_ty : (C_k19).ty = ty_k19 := rfl
theorem C_k19_eqs : (C_k19).eqs = [] := rfl
theorem C_k19_call : (C_k19).call = fun f => (([(45, M_k1d)] : List (Nat × (List DA → Option (List RV)))).lookup f).getD fun _ => none := rfl
theorem C_k19_calls : (C_k19).calls = [45] := rfl
theorem C_k19_scal : (C_k19).scal = [45] := rfl
theorem C_k19_owns : (C_k19).owns = [] := rfl
theorem C_k19_vars : (C_k19).vars = [] := rfl
theorem C_k19_ores : (C_k19).ores = [] := rfl
theorem C_k19_flags : (C_k19).flags = [] := rfl
theorem C_k19_pins : (C_k19).pins = [] := rfl
theorem C_k19_inls : (C_k19).inls = [] := rfl
def T_k19 : List (Nat × LoopA) := []
set_option maxHeartbeats 20000000 in
set_option maxRecDepth 100000 in
noncomputable def pk_k19 : { F : (List Int) → Int → Option (Bool) // CallC Go.Proofs.Tryz.prog 26 (con2 (eL ceI) eInt (fun x0 x1 => (F x0 x1).map (res1 rB).enc)) } :=
  ⟨_, cc2 E_k19 Go.Proofs.Tryz.func26 rfl rfl (T := T_k19) (G := []) (r := (res1 rB)) fun x0 x1 => by
    unfold Wf
    simp (maxSteps := 10000000) (implicitDefEqProofs := false) [-env0, -envI, env0_tree, envI_tree, -evOps, -evOne, -evOp, -evIndexAddr, -evIndex, -evPick, -binV, -evLoad, -evStore, -loadC, -callV, -nilC, -storeC, -toDVs, -toDAs, -resRs, List.lookup, List.replicate, List.range_succ, ty_k19, C_k19_ty, C_k19_eqs, C_k19_call, C_k19_calls, C_k19_scal, C_k19_owns, C_k19_vars, C_k19_ores, C_k19_flags, C_k19_pins, C_k19_inls, T_k19, Go.Proofs.Tryz.f26, M_k1d, iC, uC, bC, sC]
    try rfl⟩
noncomputable def F_k19 : (List Int) → Int → Option (Bool) := pk_k19.1
noncomputable def M_k19 : List DA → Option (List RV) := con2 (eL ceI) eInt (fun x0 x1 => (F_k19 x0 x1).map (res1 rB).enc)
theorem cc_k19 : CallC Go.Proofs.Tryz.prog 26 M_k19 := pk_k19.2
theorem en_k75 : Enters Go.Proofs.Tryz.prog 103 := ⟨_, Go.Proofs.Tryz.func103, rfl, rfl⟩
def ty_k75 : List (Nat × TI) := [(50, { size := 1, bytes := 24, agg := false, zero := [.sl []], kind := .slice 3 }), (3, { size := 1, bytes := 8, agg := false, zero := [.sc (.int .i64 0)], kind := .int .i64 })]
noncomputable def C_k75 : Cfg := mkC ty_k75 [] [] [] [(2, [(0, 3, 1)])] [] [0] []
theorem E_k75 : Env1 Go.Proofs.Tryz.prog C_k75 := mkC_ok (by kernel_rfl) trivial (by kernel_rfl)
theorem C_k75_ty : (C_k75).ty = ty_k75 := rfl
theorem C_k75_eqs : (C_k75).eqs = [] := rfl
theorem C_k75_call : (C_k75).call = fun f => (([] : List (Nat × (List DA → Option (List RV)))).lookup f).getD fun _ => none := rfl
theorem C_k75_calls : (C_k75).calls = [] := rfl
theorem C_k75_scal : (C_k75).scal = [] := rfl
theorem C_k75_owns : (C_k75).owns = [(2, [(0, 3, 1)])] := rfl
theorem C_k75_vars : (C_k75).vars = [] := rfl
theorem C_k75_ores : (C_k75).ores = [0] := rfl
theorem C_k75_flags : (C_k75).flags = [] := rfl
theorem C_k75_pins : (C_k75).pins = [] := rfl
theorem C_k75_inls : (C_k75).inls = [] := rfl
def T_k75 : List (Nat × LoopA) := []
set_option maxHeartbeats 20000000 in
set_option maxRecDepth 100000 in
noncomputable def pk_k75 : { F : (List Int) → Option ((List Int)) // CallC Go.Proofs.Tryz.prog 103 (con1 (eL ceI) (fun x0 => (F x0).map (res1 (rOwn 3 1 ceI)).enc)) } :=
  ⟨_, cc1 E_k75 Go.Proofs.Tryz.func103 rfl rfl (T := T_k75) (G := []) (r := (res1 (rOwn 3 1 ceI))) fun x0 => by
    unfold Wf
    simp (maxSteps := 10000000) (implicitDefEqProofs := false) [-env0, -envI, env0_tree, envI_tree, -evOps, -evOne, -evOp, -evIndexAddr, -evIndex, -evPick, -binV, -evLoad, -evStore, -loadC, -callV, -nilC, -storeC, -toDVs, -toDAs, -resRs, List.lookup, List.replicate, List.range_succ, ty_k75, C_k75_ty, C_k75_eqs, C_k75_call, C_k75_calls, C_k75_scal, C_k75_owns, C_k75_vars, C_k75_ores, C_k75_flags, C_k75_pins, C_k75_inls, T_k75, Go.Proofs.Tryz.f103, iC, uC, bC, sC]
    try rfl⟩
noncomputable def F_k75 : (List Int) → Option ((List Int)) := pk_k75.1
noncomputable def M_k75 : List DA → Option (List RV) := con1 (eL ceI) (fun x0 => (F_k75 x0).map (res1 (rOwn 3 1 ceI)).enc)
theorem cc_k75 : CallC Go.Proofs.Tryz.prog 103 M_k75 := pk_k75.2
theorem en_k1e : Enters Go.Proofs.Tryz.prog 81 := ⟨_, Go.Proofs.Tryz.func81, rfl, rfl⟩
def ty_k1e : List (Nat × TI) := [(50, { size := 1, bytes := 24, agg := false, zero := [.sl []], kind := .slice 3 }), (3, { size := 1, bytes := 8, agg := false, zero := [.sc (.int .i64 0)], kind := .int .i64 })]
noncomputable def C_k1e : Cfg := mkC ty_k1e [] [(103, M_k75)] [] [(6, [(0, 3, 1)])] [] [] []
theorem E_k1e : Env1 Go.Proofs.Tryz.prog C_k1e := mkC_ok (by kernel_rfl) (⟨⟨en_k75, cc_k75⟩, trivial⟩) (by kernel_rfl)
theorem C_k1e_ty : (C_k1e).ty = ty_k1e := rfl
theorem C_k1e_eqs : (C_k1e).eqs = [] := rfl
theorem C_k1e_call : (C_k1e).call = fun f => (([(103, M_k75)] : List (Nat × (List DA → Option (List RV)))).lookup f).getD fun _ => none := rfl
theorem C_k1e_calls : (C_k1e).calls = [103] := rfl
theorem C_k1e_scal : (C_k1e).scal = [] := rfl
theorem C_k1e_owns : (C_k1e).owns = [(6, [(0, 3, 1)])] := rfl
theorem C_k1e_vars : (C_k1e).vars = [] := rfl
theorem C_k1e_ores : (C_k1e).ores = [] := rfl
theorem C_k1e_flags : (C_k1e).flags = [] := rfl
theorem C_k1e_pins : (C_k1e).pins = [] := rfl
theorem C_k1e_inls : (C_k1e).inls = [] := rfl
def T_k1e : List (Nat × LoopA) := []
set_option maxHeartbeats 20000000 in
set_option maxRecDepth 100000 in
noncomputable def pk_k1e : { F : (List Int) → Int → Int → Option ((List Int)) // CallC Go.Proofs.Tryz.prog 81 (con3 (eL ceI) eInt eInt (fun x0 x1 x2 => (F x0 x1 x2).map (res1 (rSl ceI)).enc)) } :=
  ⟨_, cc3 E_k1e Go.Proofs.Tryz.func81 rfl rfl (T := T_k1e) (G := []) (r := (res1 (rSl ceI))) fun x0 x1 x2 => by
    unfold Wf
    simp (maxSteps := 10000000) (implicitDefEqProofs := false) [-env0, -envI, env0_tree, envI_tree, -evOps, -evOne, -evOp, -evIndexAddr, -evIndex, -evPick, -binV, -evLoad, -evStore, -loadC, -callV, -nilC, -storeC, -toDVs, -toDAs, -resRs, List.lookup, List.replicate, List.range_succ, ty_k1e, C_k1e_ty, C_k1e_eqs, C_k1e_call, C_k1e_calls, C_k1e_scal, C_k1e_owns, C_k1e_vars, C_k1e_ores, C_k1e_flags, C_k1e_pins, C_k1e_inls, T_k1e, Go.Proofs.Tryz.f81, M_k75, iC, uC, bC, sC, Nat.mod_one]
    try rfl⟩
noncomputable def F_k1e : (List Int) → Int → Int → Option ((List Int)) := pk_k1e.1
noncomputable def M_k1e : List DA → Option (List RV) := con3 (eL ceI) eInt eInt (fun x0 x1 x2 => (F_k1e x0 x1 x2).map (res1 (rSl ceI)).enc)
theorem cc_k1e : CallC Go.Proofs.Tryz.prog 81 M_k1e := pk_k1e.2
theorem en_k1c : Enters Go.Proofs.Tryz.prog 64 := ⟨_, Go.Proofs.Tryz.func64, rfl, rfl⟩
def ty_k1c : List (Nat × TI) := [(50, { size := 1, bytes := 24, agg := false, zero := [.sl []], kind := .slice 3 }), (3, { size := 1, bytes := 8, agg := false, zero := [.sc (.int .i64 0)], kind := .int .i64 })]
noncomputable def C_k1c : Cfg := mkC ty_k1c [] [(45, M_k1d), (26, M_k19), (81, M_k1e)] [45, 26] [(6, [(0, 3, 1)])] [] [] []
theorem E_k1c : Env1 Go.Proofs.Tryz.prog C_k1c := mkC_ok (by kernel_rfl) (⟨⟨en_k1d, cc_k1d⟩, ⟨⟨en_k19, cc_k19⟩, ⟨⟨en_k1e, cc_k1e⟩, trivial⟩⟩⟩) (by kernel_rfl)
theorem C_k1c_ty : (C_k1c).ty = ty_k1c := rfl
theorem C_k1c_eqs : (C_k1c).eqs = [] := rfl
theorem C_k1c_call : (C_k1c).call = fun f => (([(45, M_k1d), (26, M_k19), (81, M_k1e)] : List (Nat × (List DA → Option (List RV)))).lookup f).getD fun _ => none := rfl
theorem C_k1c_calls : (C_k1c).calls = [45, 26, 81] := rfl
theorem C_k1c_scal : (C_k1c).scal = [45, 26] := rfl
theorem C_k1c_owns : (C_k1c).owns = [(6, [(0, 3, 1)])] := rfl
theorem C_k1c_vars : (C_k1c).vars = [] := rfl
theorem C_k1c_ores : (C_k1c).ores = [] := rfl
theorem C_k1c_flags : (C_k1c).flags = [] := rfl
theorem C_k1c_pins : (C_k1c).pins = [] := rfl
theorem C_k1c_inls : (C_k1c).inls = [] := rfl
def T_k1c : List (Nat × LoopA) := []
set_option maxHeartbeats 20000000 in
set_option maxRecDepth 100000 in
noncomputable def pk_k1c : { F : (List Int) → Int → Int → Option ((List Int) × Int) // CallC Go.Proofs.Tryz.prog 64 (con3 (eL ceI) eInt eInt (fun x0 x1 x2 => (F x0 x1 x2).map (res2 (rSl ceI) rI).enc)) } :=
  ⟨_, cc3 E_k1c Go.Proofs.Tryz.func64 rfl rfl (T := T_k1c) (G := []) (r := (res2 (rSl ceI) rI)) fun x0 x1 x2 => by
    unfold Wf
    simp (maxSteps := 10000000) (implicitDefEqProofs := false) [-env0, -envI, env0_tree, envI_tree, -evOps, -evOne, -evOp, -evIndexAddr, -evIndex, -evPick, -binV, -evLoad, -evStore, -loadC, -callV, -nilC, -storeC, -toDVs, -toDAs, -resRs, List.lookup, List.replicate, List.range_succ, ty_k1c, C_k1c_ty, C_k1c_eqs, C_k1c_call, C_k1c_calls, C_k1c_scal, C_k1c_owns, C_k1c_vars, C_k1c_ores, C_k1c_flags, C_k1c_pins, C_k1c_inls, T_k1c, Go.Proofs.Tryz.f64, M_k1d, M_k19, M_k1e, iC, uC, bC, sC]
    try rfl⟩
noncomputable def F_k1c : (List Int) → Int → Int → Option ((List Int) × Int) := pk_k1c.1
noncomputable def M_k1c : List DA → Option (List RV) := con3 (eL ceI) eInt eInt (fun x0 x1 x2 => (F_k1c x0 x1 x2).map (res2 (rSl ceI) rI).enc)
theorem cc_k1c : CallC Go.Proofs.Tryz.prog 64 M_k1c := pk_k1c.2
theorem en_k1a : Enters Go.Proofs.Tryz.prog 70 := ⟨_, Go.Proofs.Tryz.func70, rfl, rfl⟩
def ty_k1a : List (Nat × TI) := [(50, { size := 1, bytes := 24, agg := false, zero := [.sl []], kind := .slice 3 }), (3, { size := 1, bytes := 8, agg := false, zero := [.sc (.int .i64 0)], kind := .int .i64 })]
noncomputable def C_k1a : Cfg := mkC ty_k1a [] [(45, M_k1d), (81, M_k1e)] [45] [(6, [(0, 3, 1)])] [] [] []
theorem E_k1a : Env1 Go.Proofs.Tryz.prog C_k1a := mkC_ok (by kernel_rfl) (⟨⟨en_k1d, cc_k1d⟩, ⟨⟨en_k1e, cc_k1e⟩, trivial⟩⟩) (by kernel_rfl)
theorem C_k1a_ty : (C_k1a).ty = ty_k1a := rfl
theorem C_k1a_eqs : (C_k1a).eqs = [] := rfl
theorem C_k1a_call : (C_k1a).call = fun f => (([(45, M_k1d), (81, M_k1e)] : List (Nat × (List DA → Option (List RV)))).lookup f).getD fun _ => none := rfl
theorem C_k1a_calls : (C_k1a).calls = [45, 81] := rfl
theorem C_k1a_scal : (C_k1a).scal = [45] := rfl
theorem C_k1a_owns : (C_k1a).owns = [(6, [(0, 3, 1)])] := rfl
theorem C_k1a_vars : (C_k1a).vars = [] := rfl
theorem C_k1a_ores : (C_k1a).ores = [] := rfl
theorem C_k1a_flags : (C_k1a).flags = [] := rfl
theorem C_k1a_pins : (C_k1a).pins = [] := rfl
theorem C_k1a_inls : (C_k1a).inls = [] := rfl
def T_k1a : List (Nat × LoopA) := []
set_option maxHeartbeats 20000000 in
set_option maxRecDepth 100000 in
noncomputable def pk_k1a : { F : (List Int) → Int → Int → Option ((List Int) × Int) // CallC Go.Proofs.Tryz.prog 70 (con3 (eL ceI) eInt eInt (fun x0 x1 x2 => (F x0 x1 x2).map (res2 (rSl ceI) rI).enc)) } :=
  ⟨_, cc3 E_k1a Go.Proofs.Tryz.func70 rfl rfl (T := T_k1a) (G := []) (r := (res2 (rSl ceI) rI)) fun x0 x1 x2 => by
    unfold Wf
    simp (maxSteps := 10000000) (implicitDefEqProofs := false) [-env0, -envI, env0_tree, envI_tree, -evOps, -evOne, -evOp, -evIndexAddr, -evIndex, -evPick, -binV, -evLoad, -evStore, -loadC, -callV, -nilC, -storeC, -toDVs, -toDAs, -resRs, List.lookup, List.replicate, List.range_succ, ty_k1a, C_k1a_ty, C_k1a_eqs, C_k1a_call, C_k1a_calls, C_k1a_scal, C_k1a_owns, C_k1a_vars, C_k1a_ores, C_k1a_flags, C_k1a_pins, C_k1a_inls, T_k1a, Go.Proofs.Tryz.f70, M_k1d, M_k1e, iC, uC, bC, sC]
    try rfl⟩
noncomputable def F_k1a : (List Int) → Int → Int → Option ((List Int) × Int) := pk_k1a.1
noncomputable def M_k1a : List DA → Option (List RV) := con3 (eL ceI) eInt eInt (fun x0 x1 x2 => (F_k1a x0 x1 x2).map (res2 (rSl ceI) rI).enc)
theorem cc_k1a : CallC Go.Proofs.Tryz.prog 70 M_k1a := pk_k1a.2
theorem en_k1b : Enters Go.Proofs.Tryz.prog 38 := ⟨_, Go.Proofs.Tryz.func38, rfl, rfl⟩
def ty_k1b : List (Nat × TI) := [(50, { size := 1, bytes := 24, agg := false, zero := [.sl []], kind := .slice 3 }), (3, { size := 1, bytes := 8, agg := false, zero := [.sc (.int .i64 0)], kind := .int .i64 })]
noncomputable def C_k1b : Cfg := mkC ty_k1b [] [] [] [(2, [(0, 3, 1)])] [] [] []
theorem E_k1b : Env1 Go.Proofs.Tryz.prog C_k1b := mkC_ok (by kernel_rfl) trivial (by kernel_rfl)
theorem C_k1b_ty : (C_k1b).ty = ty_k1b := rfl
theorem C_k1b_eqs : (C_k1b).eqs = [] := rfl
theorem C_k1b_call : (C_k1b).call = fun f => (([] : List (Nat × (List DA → Option (List RV)))).lookup f).getD fun _ => none := rfl
theorem C_k1b_calls : (C_k1b).calls = [] := rfl
theorem C_k1b_scal : (C_k1b).scal = [] := rfl
theorem C_k1b_owns : (C_k1b).owns = [(2, [(0, 3, 1)])] := rfl
theorem C_k1b_vars : (C_k1b).vars = [] := rfl
theorem C_k1b_ores : (C_k1b).ores = [] := rfl
theorem C_k1b_flags : (C_k1b).flags = [] := rfl
theorem C_k1b_pins : (C_k1b).pins = [] := rfl
theorem C_k1b_inls : (C_k1b).inls = [] := rfl
def T_k1b : List (Nat × LoopA) := []
set_option maxHeartbeats 20000000 in
set_option maxRecDepth 100000 in
noncomputable def pk_k1b : { F : Int → Option ((List Int) × Int) // CallC Go.Proofs.Tryz.prog 38 (con1 eInt (fun x0 => (F x0).map (res2 (rSl ceI) rI).enc)) } :=
  ⟨_, cc1 E_k1b Go.Proofs.Tryz.func38 rfl rfl (T := T_k1b) (G := []) (r := (res2 (rSl ceI) rI)) fun x0 => by
    unfold Wf
    simp (maxSteps := 10000000) (implicitDefEqProofs := false) [-env0, -envI, env0_tree, envI_tree, -evOps, -evOne, -evOp, -evIndexAddr, -evIndex, -evPick, -binV, -evLoad, -evStore, -loadC, -callV, -nilC, -storeC, -toDVs, -toDAs, -resRs, List.lookup, List.replicate, List.range_succ, ty_k1b, C_k1b_ty, C_k1b_eqs, C_k1b_call, C_k1b_calls, C_k1b_scal, C_k1b_owns, C_k1b_vars, C_k1b_ores, C_k1b_flags, C_k1b_pins, C_k1b_inls, T_k1b, Go.Proofs.Tryz.f38, iC, uC, bC, sC]
    try rfl⟩
noncomputable def F_k1b : Int → Option ((List Int) × Int) := pk_k1b.1
noncomputable def M_k1b : List DA → Option (List RV) := con1 eInt (fun x0 => (F_k1b x0).map (res2 (rSl ceI) rI).enc)
theorem cc_k1b : CallC Go.Proofs.Tryz.prog 38 M_k1b := pk_k1b.2

end Go.Vm

/- What Go functions come to, as Lean functions: each with its contract. -/
set_option linter.unusedVariables false
set_option linter.unusedSimpArgs false
namespace Go.Vm
open Go Go.RowKit

theorem en_k2f : Enters Go.Proofs.Tryz.prog 83 := ⟨_, Go.Proofs.Tryz.func83, rfl, rfl⟩
def ty_k2f : List (Nat × TI) := [(51, { size := 2, bytes := 16, agg := true, zero := [.sc (.int .i64 0), .sc (.int .i64 0)], kind := .struct [(0, 1, false), (1, 1, false)] }), (3, { size := 1, bytes := 8, agg := false, zero := [.sc (.int .i64 0)], kind := .int .i64 })]
noncomputable def C_k2f : Cfg := mkC ty_k2f [] [] [] [] [] [] []
theorem E_k2f : Env1 Go.Proofs.Tryz.prog C_k2f := mkC_ok (by kernel_rfl) trivial (by kernel_rfl)
theorem C_k2f_ty : (C_k2f).ty = ty_k2f := rfl
theorem C_k2f_eqs : (C_k2f).eqs = [] := rfl
theorem C_k2f_call : (C_k2f).call = fun f => (([] : List (Nat × (List DA → Option (List RV)))).lookup f).getD fun _ => none := rfl
theorem C_k2f_calls : (C_k2f).calls = [] := rfl
theorem C_k2f_scal : (C_k2f).scal = [] := rfl
theorem C_k2f_owns : (C_k2f).owns = [] := rfl
theorem C_k2f_vars : (C_k2f).vars = [] := rfl
theorem C_k2f_ores : (C_k2f).ores = [] := rfl
theorem C_k2f_flags : (C_k2f).flags = [] := rfl
theorem C_k2f_pins : (C_k2f).pins = [] := rfl
theorem C_k2f_inls : (C_k2f).inls = [] := rfl
def T_k2f : List (Nat × LoopA) := []
set_option maxHeartbeats 20000000 in
set_option maxRecDepth 100000 in
noncomputable def pk_k2f : { F : Pot → Option (Bool) // CallC Go.Proofs.Tryz.prog 83 (con1 (eT cePot) (fun x0 => (F x0).map (res1 rB).enc)) } :=
  ⟨_, cc1 E_k2f Go.Proofs.Tryz.func83 rfl rfl (T := T_k2f) (G := []) (r := (res1 rB)) fun x0 => by
    unfold Wf
    simp (maxSteps := 10000000) (implicitDefEqProofs := false) [-env0, -envI, env0_tree, envI_tree, -evOps, -evOne, -evOp, -evIndexAddr, -evIndex, -evPick, -binV, -evLoad, -evStore, -loadC, -callV, -nilC, -storeC, -toDVs, -toDAs, -resRs, List.lookup, List.replicate, List.range_succ, ty_k2f, C_k2f_ty, C_k2f_eqs, C_k2f_call, C_k2f_calls, C_k2f_scal, C_k2f_owns, C_k2f_vars, C_k2f_ores, C_k2f_flags, C_k2f_pins, C_k2f_inls, T_k2f, Go.Proofs.Tryz.f83, iC, uC, bC, sC, Pot.c]
    try rfl⟩
noncomputable def F_k2f : Pot → Option (Bool) := pk_k2f.1
noncomputable def M_k2f : List DA → Option (List RV) := con1 (eT cePot) (fun x0 => (F_k2f x0).map (res1 rB).enc)
theorem cc_k2f : CallC Go.Proofs.Tryz.prog 83 M_k2f := pk_k2f.2
theorem en_k2e : Enters Go.Proofs.Tryz.prog 39 := ⟨_, Go.Proofs.Tryz.func39, rfl, rfl⟩
def ty_k2e : List (Nat × TI) := [(51, { size := 2, bytes := 16, agg := true, zero := [.sc (.int .i64 0), .sc (.int .i64 0)], kind := .struct [(0, 1, false), (1, 1, false)] }), (3, { size := 1, bytes := 8, agg := false, zero := [.sc (.int .i64 0)], kind := .int .i64 })]
noncomputable def C_k2e : Cfg := mkC ty_k2e [] [] [] [] [] [] []
theorem E_k2e : Env1 Go.Proofs.Tryz.prog C_k2e := mkC_ok (by kernel_rfl) trivial (by kernel_rfl)
theorem C_k2e_ty : (C_k2e).ty = ty_k2e := rfl
theorem C_k2e_eqs : (C_k2e).eqs = [] := rfl
theorem C_k2e_call : (C_k2e).call = fun f => (([] : List (Nat × (List DA → Option (List RV)))).lookup f).getD fun _ => none := rfl
theorem C_k2e_calls : (C_k2e).calls = [] := rfl
theorem C_k2e_scal : (C_k2e).scal = [] := rfl
theorem C_k2e_owns : (C_k2e).owns = [] := rfl
theorem C_k2e_vars : (C_k2e).vars = [] := rfl
theorem C_k2e_ores : (C_k2e).ores = [] := rfl
theorem C_k2e_flags : (C_k2e).flags = [] := rfl
theorem C_k2e_pins : (C_k2e).pins = [] := rfl
theorem C_k2e_inls : (C_k2e).inls = [] := rfl
def T_k2e : List (Nat × LoopA) := []
set_option maxHeartbeats 20000000 in
set_option maxRecDepth 100000 in
noncomputable def pk_k2e : { F : Int → Option (Pot × Int) // CallC Go.Proofs.Tryz.prog 39 (con1 eInt (fun x0 => (F x0).map (res2 (rAgg cePot) rI).enc)) } :=
  ⟨_, cc1 E_k2e Go.Proofs.Tryz.func39 rfl rfl (T := T_k2e) (G := []) (r := (res2 (rAgg cePot) rI)) fun x0 => by
    unfold Wf
    simp (maxSteps := 10000000) (implicitDefEqProofs := false) [-env0, -envI, env0_tree, envI_tree, -evOps, -evOne, -evOp, -evIndexAddr, -evIndex, -evPick, -binV, -evLoad, -evStore, -loadC, -callV, -nilC, -storeC, -toDVs, -toDAs, -resRs, List.lookup, List.replicate, List.range_succ, ty_k2e, C_k2e_ty, C_k2e_eqs, C_k2e_call, C_k2e_calls, C_k2e_scal, C_k2e_owns, C_k2e_vars, C_k2e_ores, C_k2e_flags, C_k2e_pins, C_k2e_inls, T_k2e, Go.Proofs.Tryz.f39, iC, uC, bC, sC, Pot.c]
    try rfl⟩
noncomputable def F_k2e : Int → Option (Pot × Int) := pk_k2e.1
noncomputable def M_k2e : List DA → Option (List RV) := con1 eInt (fun x0 => (F_k2e x0).map (res2 (rAgg cePot) rI).enc)
theorem cc_k2e : CallC Go.Proofs.Tryz.prog 39 M_k2e := pk_k2e.2
theorem en_k6a : Enters Go.Proofs.Tryz.prog 84 := ⟨_, Go.Proofs.Tryz.func84, rfl, rfl⟩
def ty_k6a : List (Nat × TI) := [(3, { size := 1, bytes := 8, agg := false, zero := [.sc (.int .i64 0)], kind := .int .i64 })]
noncomputable def C_k6a : Cfg := mkC ty_k6a [] [] [] [] [] [] []
theorem E_k6a : Env1 Go.Proofs.Tryz.prog C_k6a := mkC_ok (by kernel_rfl) trivial (by kernel_rfl)
theorem C_k6a_ty : (C_k6a).ty = ty_k6a := rfl
theorem C_k6a_eqs : (C_k6a).eqs = [] := rfl
theorem C_k6a_call : (C_k6a).call = fun f => (([] : List (Nat × (List DA → Option (List RV)))).lookup f).getD fun _ => none := rfl
theorem C_k6a_calls : (C_k6a).calls = [] := rfl
theorem C_k6a_scal : (C_k6a).scal = [] := rfl
theorem C_k6a_owns : (C_k6a).owns = [] := rfl
theorem C_k6a_vars : (C_k6a).vars = [] := rfl
theorem C_k6a_ores : (C_k6a).ores = [] := rfl
theorem C_k6a_flags : (C_k6a).flags = [] := rfl
theorem C_k6a_pins : (C_k6a).pins = [] := rfl
theorem C_k6a_inls : (C_k6a).inls = [] := rfl
def T_k6a : List (Nat × LoopA) := []
set_option maxHeartbeats 20000000 in
set_option maxRecDepth 100000 in
noncomputable def pk_k6a : { F : Int → Int → Int → Option (Int × Bool) // CallC Go.Proofs.Tryz.prog 84 (con3 eInt eInt eInt (fun x0 x1 x2 => (F x0 x1 x2).map (res2 rI rB).enc)) } :=
  ⟨_, cc3 E_k6a Go.Proofs.Tryz.func84 rfl rfl (T := T_k6a) (G := []) (r := (res2 rI rB)) fun x0 x1 x2 => by
    unfold Wf
    simp (maxSteps := 10000000) (implicitDefEqProofs := false) [-env0, -envI, env0_tree, envI_tree, -evOps, -evOne, -evOp, -evIndexAddr, -evIndex, -evPick, -binV, -evLoad, -evStore, -loadC, -callV, -nilC, -storeC, -toDVs, -toDAs, -resRs, List.lookup, List.replicate, List.range_succ, ty_k6a, C_k6a_ty, C_k6a_eqs, C_k6a_call, C_k6a_calls, C_k6a_scal, C_k6a_owns, C_k6a_vars, C_k6a_ores, C_k6a_flags, C_k6a_pins, C_k6a_inls, T_k6a, Go.Proofs.Tryz.f84, iC, uC, bC, sC]
    try rfl⟩
noncomputable def F_k6a : Int → Int → Int → Option (Int × Bool) := pk_k6a.1
noncomputable def M_k6a : List DA → Option (List RV) := con3 eInt eInt eInt (fun x0 x1 x2 => (F_k6a x0 x1 x2).map (res2 rI rB).enc)
theorem cc_k6a : CallC Go.Proofs.Tryz.prog 84 M_k6a := pk_k6a.2
theorem en_k2d : Enters Go.Proofs.Tryz.prog 66 := ⟨_, Go.Proofs.Tryz.func66, rfl, rfl⟩
def ty_k2d : List (Nat × TI) := [(51, { size := 2, bytes := 16, agg := true, zero := [.sc (.int .i64 0), .sc (.int .i64 0)], kind := .struct [(0, 1, false), (1, 1, false)] }), (3, { size := 1, bytes := 8, agg := false, zero := [.sc (.int .i64 0)], kind := .int .i64 })]
noncomputable def C_k2d : Cfg := mkC ty_k2d [] [(83, M_k2f), (84, M_k6a)] [83, 84] [] [] [] []
theorem E_k2d : Env1 Go.Proofs.Tryz.prog C_k2d := mkC_ok (by kernel_rfl) (⟨⟨en_k2f, cc_k2f⟩, ⟨⟨en_k6a, cc_k6a⟩, trivial⟩⟩) (by kernel_rfl)
theorem C_k2d_ty : (C_k2d).ty = ty_k2d := rfl
theorem C_k2d_eqs : (C_k2d).eqs = [] := rfl
theorem C_k2d_call : (C_k2d).call = fun f => (([(83, M_k2f), (84, M_k6a)] : List (Nat × (List DA → Option (List RV)))).lookup f).getD fun _ => none := rfl
theorem C_k2d_calls : (C_k2d).calls = [83, 84] := rfl
theorem C_k2d_scal : (C_k2d).scal = [83, 84] := rfl
theorem C_k2d_owns : (C_k2d).owns = [] := rfl
theorem C_k2d_vars : (C_k2d).vars = [] := rfl
theorem C_k2d_ores : (C_k2d).ores = [] := rfl
theorem C_k2d_flags : (C_k2d).flags = [] := rfl
theorem C_k2d_pins : (C_k2d).pins = [] := rfl
theorem C_k2d_inls : (C_k2d).inls = [] := rfl
def T_k2d : List (Nat × LoopA) := []
set_option maxHeartbeats 20000000 in
set_option maxRecDepth 100000 in
noncomputable def pk_k2d : { F : Pot → Int → Option (Pot × Int) // CallC Go.Proofs.Tryz.prog 66 (con2 (eT cePot) eInt (fun x0 x1 => (F x0 x1).map (res2 (rAgg cePot) rI).enc)) } :=
  ⟨_, cc2 E_k2d Go.Proofs.Tryz.func66 rfl rfl (T := T_k2d) (G := []) (r := (res2 (rAgg cePot) rI)) fun x0 x1 => by
    unfold Wf
    simp (maxSteps := 10000000) (implicitDefEqProofs := false) [-env0, -envI, env0_tree, envI_tree, -evOps, -evOne, -evOp, -evIndexAddr, -evIndex, -evPick, -binV, -evLoad, -evStore, -loadC, -callV, -nilC, -storeC, -toDVs, -toDAs, -resRs, List.lookup, List.replicate, List.range_succ, ty_k2d, C_k2d_ty, C_k2d_eqs, C_k2d_call, C_k2d_calls, C_k2d_scal, C_k2d_owns, C_k2d_vars, C_k2d_ores, C_k2d_flags, C_k2d_pins, C_k2d_inls, T_k2d, Go.Proofs.Tryz.f66, M_k2f, M_k6a, iC, uC, bC, sC, Pot.c]
    try rfl⟩
noncomputable def F_k2d : Pot → Int → Option (Pot × Int) := pk_k2d.1
noncomputable def M_k2d : List DA → Option (List RV) := con2 (eT cePot) eInt (fun x0 x1 => (F_k2d x0 x1).map (res2 (rAgg cePot) rI).enc)
theorem cc_k2d : CallC Go.Proofs.Tryz.prog 66 M_k2d := pk_k2d.2

end Go.Vm

/- What Go functions come to, as Lean functions: each with its contract. -/
set_option linter.unusedVariables false
set_option linter.unusedSimpArgs false
namespace Go.Vm
open Go Go.RowKit

theorem en_k2c : Enters Go.Proofs.Tryz.prog 56 := ⟨_, Go.Proofs.Tryz.func56, rfl, rfl⟩
def ty_k2c : List (Nat × TI) := [(3, { size := 1, bytes := 8, agg := false, zero := [.sc (.int .i64 0)], kind := .int .i64 })]
noncomputable def C_k2c : Cfg := mkC ty_k2c [] [] [] [] [] [] []
theorem E_k2c : Env1 Go.Proofs.Tryz.prog C_k2c := mkC_ok (by kernel_rfl) trivial (by kernel_rfl)
theorem C_k2c_ty : (C_k2c).ty = ty_k2c := rfl
theorem C_k2c_eqs : (C_k2c).eqs = [] := rfl
theorem C_k2c_call : (C_k2c).call = fun f => (([] : List (Nat × (List DA → Option (List RV)))).lookup f).getD fun _ => none := rfl
theorem C_k2c_calls : (C_k2c).calls = [] := rfl
theorem C_k2c_scal : (C_k2c).scal = [] := rfl
theorem C_k2c_owns : (C_k2c).owns = [] := rfl
theorem C_k2c_vars : (C_k2c).vars = [] := rfl
theorem C_k2c_ores : (C_k2c).ores = [] := rfl
theorem C_k2c_flags : (C_k2c).flags = [] := rfl
theorem C_k2c_pins : (C_k2c).pins = [] := rfl
theorem C_k2c_inls : (C_k2c).inls = [] := rfl
def T_k2c : List (Nat × LoopA) := []
set_option maxHeartbeats 20000000 in
set_option maxRecDepth 100000 in
noncomputable def pk_k2c : { F : Int → Int → Int → Option (Bool) // CallC Go.Proofs.Tryz.prog 56 (con3 eInt eInt eInt (fun x0 x1 x2 => (F x0 x1 x2).map (res1 rB).enc)) } :=
  ⟨_, cc3 E_k2c Go.Proofs.Tryz.func56 rfl rfl (T := T_k2c) (G := []) (r := (res1 rB)) fun x0 x1 x2 => by
    unfold Wf
    simp (maxSteps := 10000000) (implicitDefEqProofs := false) [-env0, -envI, env0_tree, envI_tree, -evOps, -evOne, -evOp, -evIndexAddr, -evIndex, -evPick, -binV, -evLoad, -evStore, -loadC, -callV, -nilC, -storeC, -toDVs, -toDAs, -resRs, List.lookup, List.replicate, List.range_succ, ty_k2c, C_k2c_ty, C_k2c_eqs, C_k2c_call, C_k2c_calls, C_k2c_scal, C_k2c_owns, C_k2c_vars, C_k2c_ores, C_k2c_flags, C_k2c_pins, C_k2c_inls, T_k2c, Go.Proofs.Tryz.f56, iC, uC, bC, sC]
    try rfl⟩
noncomputable def F_k2c : Int → Int → Int → Option (Bool) := pk_k2c.1
noncomputable def M_k2c : List DA → Option (List RV) := con3 eInt eInt eInt (fun x0 x1 x2 => (F_k2c x0 x1 x2).map (res1 rB).enc)
theorem cc_k2c : CallC Go.Proofs.Tryz.prog 56 M_k2c := pk_k2c.2
theorem en_k2b : Enters Go.Proofs.Tryz.prog 37 := ⟨_, Go.Proofs.Tryz.func37, rfl, rfl⟩
def ty_k2b : List (Nat × TI) := [(26, { size := 8, bytes := 64, agg := true, zero := [.sc (.int .i64 0), .sc (.int .i64 0), .sc (.int .i64 0), .sc (.int .i64 0), .sc (.int .i64 0), .sc (.int .i64 0), .sc (.int .i64 0), .sc (.int .i64 0)], kind := .struct [(0, 1, false), (1, 1, false), (2, 1, false), (3, 1, false), (4, 1, false), (5, 1, false), (6, 1, false), (7, 1, false)] }), (3, { size := 1, bytes := 8, agg := false, zero := [.sc (.int .i64 0)], kind := .int .i64 })]
noncomputable def C_k2b : Cfg := mkC ty_k2b [] [(56, M_k2c)] [56] [] [] [] []
theorem E_k2b : Env1 Go.Proofs.Tryz.prog C_k2b := mkC_ok (by kernel_rfl) (⟨⟨en_k2c, cc_k2c⟩, trivial⟩) (by kernel_rfl)
theorem C_k2b_ty : (C_k2b).ty = ty_k2b := rfl
theorem C_k2b_eqs : (C_k2b).eqs = [] := rfl
theorem C_k2b_call : (C_k2b).call = fun f => (([(56, M_k2c)] : List (Nat × (List DA → Option (List RV)))).lookup f).getD fun _ => none := rfl
theorem C_k2b_calls : (C_k2b).calls = [56] := rfl
theorem C_k2b_scal : (C_k2b).scal = [56] := rfl
theorem C_k2b_owns : (C_k2b).owns = [] := rfl
theorem C_k2b_vars : (C_k2b).vars = [] := rfl
theorem C_k2b_ores : (C_k2b).ores = [] := rfl
theorem C_k2b_flags : (C_k2b).flags = [] := rfl
theorem C_k2b_pins : (C_k2b).pins = [] := rfl
theorem C_k2b_inls : (C_k2b).inls = [] := rfl
def T_k2b : List (Nat × LoopA) := []
set_option maxHeartbeats 20000000 in
set_option maxRecDepth 100000 in
noncomputable def pk_k2b : { F : Config → Option (Bool) // CallC Go.Proofs.Tryz.prog 37 (con1 (eT ceConfig) (fun x0 => (F x0).map (res1 rB).enc)) } :=
  ⟨_, cc1 E_k2b Go.Proofs.Tryz.func37 rfl rfl (T := T_k2b) (G := []) (r := (res1 rB)) fun x0 => by
    unfold Wf
    simp (maxSteps := 10000000) (implicitDefEqProofs := false) [-env0, -envI, env0_tree, envI_tree, -evOps, -evOne, -evOp, -evIndexAddr, -evIndex, -evPick, -binV, -evLoad, -evStore, -loadC, -callV, -nilC, -storeC, -toDVs, -toDAs, -resRs, List.lookup, List.replicate, List.range_succ, ty_k2b, C_k2b_ty, C_k2b_eqs, C_k2b_call, C_k2b_calls, C_k2b_scal, C_k2b_owns, C_k2b_vars, C_k2b_ores, C_k2b_flags, C_k2b_pins, C_k2b_inls, T_k2b, Go.Proofs.Tryz.f37, M_k2c, iC, uC, bC, sC, Config.c]
    try rfl⟩
noncomputable def F_k2b : Config → Option (Bool) := pk_k2b.1
noncomputable def M_k2b : List DA → Option (List RV) := con1 (eT ceConfig) (fun x0 => (F_k2b x0).map (res1 rB).enc)
theorem cc_k2b : CallC Go.Proofs.Tryz.prog 37 M_k2b := pk_k2b.2

end Go.Vm

/- What Go functions come to, as Lean functions: each with its contract. -/
set_option linter.unusedVariables false
set_option linter.unusedSimpArgs false
namespace Go.Vm
open Go Go.RowKit

theorem en_k72 : Enters Go.Proofs.Tryz.prog 59 := ⟨_, Go.Proofs.Tryz.func59, rfl, rfl⟩
def ty_k72 : List (Nat × TI) := [(38, { size := 3, bytes := 40, agg := true, zero := [.sc (.int .i64 0), .sc (.int .i64 0), .sl []], kind := .struct [(0, 1, false), (1, 1, false), (2, 1, false)] }), (3, { size := 1, bytes := 8, agg := false, zero := [.sc (.int .i64 0)], kind := .int .i64 }), (36, { size := 1, bytes := 24, agg := false, zero := [.sl []], kind := .slice 42 }), (42, { size := 6, bytes := 56, agg := true, zero := [.sc (.int .i64 0), .sc (.int .i64 0), .sc (.int .i64 0), .sc (.int .i64 0), .sc (.int .i64 0), .sc (.string "".toByteArray)], kind := .struct [(0, 1, false), (1, 1, false), (2, 1, false), (3, 1, false), (4, 1, false), (5, 1, false)] })]
noncomputable def C_k72 : Cfg := mkC ty_k72 [] [] [] [] [] [] []
theorem E_k72 : Env1 Go.Proofs.Tryz.prog C_k72 := mkC_ok (by kernel_rfl) trivial (by kernel_rfl)
theorem C_k72_ty : (C_k72).ty = ty_k72 := rfl
theorem C_k72_eqs : (C_k72).eqs = [] := rfl
theorem C_k72_call : (C_k72).call = fun f => (([] : List (Nat × (List DA → Option (List RV)))).lookup f).getD fun _ => none := rfl
theorem C_k72_calls : (C_k72).calls = [] := rfl
theorem C_k72_scal : (C_k72).scal = [] := rfl
theorem C_k72_owns : (C_k72).owns = [] := rfl
theorem C_k72_vars : (C_k72).vars = [] := rfl
theorem C_k72_ores : (C_k72).ores = [] := rfl
theorem C_k72_flags : (C_k72).flags = [] := rfl
theorem C_k72_pins : (C_k72).pins = [] := rfl
theorem C_k72_inls : (C_k72).inls = [] := rfl
def T_k72 : List (Nat × LoopA) := []
set_option maxHeartbeats 20000000 in
set_option maxRecDepth 100000 in
noncomputable def pk_k72 : { F : Acc → Option (Bool) // CallC Go.Proofs.Tryz.prog 59 (con1 (eT ceAcc) (fun x0 => (F x0).map (res1 rB).enc)) } :=
  ⟨_, cc1 E_k72 Go.Proofs.Tryz.func59 rfl rfl (T := T_k72) (G := []) (r := (res1 rB)) fun x0 => by
    unfold Wf
    simp (maxSteps := 10000000) (implicitDefEqProofs := false) [-env0, -envI, env0_tree, envI_tree, -evOps, -evOne, -evOp, -evIndexAddr, -evIndex, -evPick, -binV, -evLoad, -evStore, -loadC, -callV, -nilC, -storeC, -toDVs, -toDAs, -resRs, List.lookup, List.replicate, List.range_succ, ty_k72, C_k72_ty, C_k72_eqs, C_k72_call, C_k72_calls, C_k72_scal, C_k72_owns, C_k72_vars, C_k72_ores, C_k72_flags, C_k72_pins, C_k72_inls, T_k72, Go.Proofs.Tryz.f59, iC, uC, bC, sC, Acc.c, Tx.c]
    try rfl⟩
noncomputable def F_k72 : Acc → Option (Bool) := pk_k72.1
noncomputable def M_k72 : List DA → Option (List RV) := con1 (eT ceAcc) (fun x0 => (F_k72 x0).map (res1 rB).enc)
theorem cc_k72 : CallC Go.Proofs.Tryz.prog 59 M_k72 := pk_k72.2
theorem en_k59 : Enters Go.Proofs.Tryz.prog 35 := ⟨_, Go.Proofs.Tryz.func35, rfl, rfl⟩
def ty_k59 : List (Nat × TI) := [(38, { size := 3, bytes := 40, agg := true, zero := [.sc (.int .i64 0), .sc (.int .i64 0), .sl []], kind := .struct [(0, 1, false), (1, 1, false), (2, 1, false)] }), (3, { size := 1, bytes := 8, agg := false, zero := [.sc (.int .i64 0)], kind := .int .i64 }), (36, { size := 1, bytes := 24, agg := false, zero := [.sl []], kind := .slice 42 }), (42, { size := 6, bytes := 56, agg := true, zero := [.sc (.int .i64 0), .sc (.int .i64 0), .sc (.int .i64 0), .sc (.int .i64 0), .sc (.int .i64 0), .sc (.string "".toByteArray)], kind := .struct [(0, 1, false), (1, 1, false), (2, 1, false), (3, 1, false), (4, 1, false), (5, 1, false)] })]
noncomputable def C_k59 : Cfg := mkC ty_k59 [] [] [] [] [] [] []
theorem E_k59 : Env1 Go.Proofs.Tryz.prog C_k59 := mkC_ok (by kernel_rfl) trivial (by kernel_rfl)
theorem C_k59_ty : (C_k59).ty = ty_k59 := rfl
theorem C_k59_eqs : (C_k59).eqs = [] := rfl
theorem C_k59_call : (C_k59).call = fun f => (([] : List (Nat × (List DA → Option (List RV)))).lookup f).getD fun _ => none := rfl
theorem C_k59_calls : (C_k59).calls = [] := rfl
theorem C_k59_scal : (C_k59).scal = [] := rfl
theorem C_k59_owns : (C_k59).owns = [] := rfl
theorem C_k59_vars : (C_k59).vars = [] := rfl
theorem C_k59_ores : (C_k59).ores = [] := rfl
theorem C_k59_flags : (C_k59).flags = [] := rfl
theorem C_k59_pins : (C_k59).pins = [] := rfl
theorem C_k59_inls : (C_k59).inls = [] := rfl
def T_k59 : List (Nat × LoopA) := []
set_option maxHeartbeats 20000000 in
set_option maxRecDepth 100000 in
noncomputable def pk_k59 : { F : Acc → Option (Bool) // CallC Go.Proofs.Tryz.prog 35 (con1 (eT ceAcc) (fun x0 => (F x0).map (res1 rB).enc)) } :=
  ⟨_, cc1 E_k59 Go.Proofs.Tryz.func35 rfl rfl (T := T_k59) (G := []) (r := (res1 rB)) fun x0 => by
    unfold Wf
    simp (maxSteps := 10000000) (implicitDefEqProofs := false) [-env0, -envI, env0_tree, envI_tree, -evOps, -evOne, -evOp, -evIndexAddr, -evIndex, -evPick, -binV, -evLoad, -evStore, -loadC, -callV, -nilC, -storeC, -toDVs, -toDAs, -resRs, List.lookup, List.replicate, List.range_succ, ty_k59, C_k59_ty, C_k59_eqs, C_k59_call, C_k59_calls, C_k59_scal, C_k59_owns, C_k59_vars, C_k59_ores, C_k59_flags, C_k59_pins, C_k59_inls, T_k59, Go.Proofs.Tryz.f35, iC, uC, bC, sC, Acc.c, Tx.c]
    try rfl⟩
noncomputable def F_k59 : Acc → Option (Bool) := pk_k59.1
noncomputable def M_k59 : List DA → Option (List RV) := con1 (eT ceAcc) (fun x0 => (F_k59 x0).map (res1 rB).enc)
theorem cc_k59 : CallC Go.Proofs.Tryz.prog 35 M_k59 := pk_k59.2

end Go.Vm

/- What Go functions come to, as Lean functions: each with its contract. -/
set_option linter.unusedVariables false
set_option linter.unusedSimpArgs false
namespace Go.Vm
open Go Go.RowKit

theorem en_k54 : Enters Go.Proofs.Tryz.prog 28 := ⟨_, Go.Proofs.Tryz.func28, rfl, rfl⟩
def ty_k54 : List (Nat × TI) := [(27, { size := 1, bytes := 24, agg := false, zero := [.sl []], kind := .slice 3 }), (3, { size := 1, bytes := 8, agg := false, zero := [.sc (.int .i64 0)], kind := .int .i64 })]
noncomputable def C_k54 : Cfg := mkC ty_k54 [] [] [] [] [0,1,5] [] [(6, [true, true, true, true, true, true, true, true, true])]
theorem E_k54 : Env1 Go.Proofs.Tryz.prog C_k54 := mkC_ok (by kernel_rfl) trivial (by kernel_rfl)
theorem C_k54_ty : (C_k54).ty = ty_k54 := rfl
theorem C_k54_eqs : (C_k54).eqs = [] := rfl
theorem C_k54_call : (C_k54).call = fun f => (([] : List (Nat × (List DA → Option (List RV)))).lookup f).getD fun _ => none := rfl
theorem C_k54_calls : (C_k54).calls = [] := rfl
theorem C_k54_scal : (C_k54).scal = [] := rfl
theorem C_k54_owns : (C_k54).owns = [] := rfl
theorem C_k54_vars : (C_k54).vars = [0,1,5] := rfl
theorem C_k54_ores : (C_k54).ores = [] := rfl
theorem C_k54_flags : (C_k54).flags = [(6, [true, true, true, true, true, true, true, true, true])] := rfl
theorem C_k54_pins : (C_k54).pins = [] := rfl
theorem C_k54_inls : (C_k54).inls = [] := rfl
structure L_k54_0 where
  a_ : List Int
  b_ : List Int
  i : Int
def an_k54_0 : Ann := mkAnn (σ := L_k54_0) (lCons (vOne (cSl ceI)) <| lCons (vOne (cSl ceI)) <| lSkip vUnk <| lSkip vUnk <| lSkip vUnk <| lCons (vOne cI) <| lSkip vUnk <| lSkip vUnk <| lSkip vUnk <| lSkip vUnk <| lSkip vUnk <| lSkip vUnk <| lSkip vUnk <| lSkip vUnk <| lSkip vUnk <| lSkip vUnk <| lSkip vUnk <| lSkip vUnk <| lSkip vUnk <| lSkip vUnk <| lSkip vUnk <| lSkip vUnk <| lSkip vUnk <| lSkip vUnk <| lSkip vUnk <| lSkip vUnk <|  lNil) ( lNil)
  (fun a b => L_k54_0.mk (a.1) (a.2.1) (a.2.2.1)) (fun s => (s.a_, s.b_, s.i, ())) (fun s => (())) (fun a b => true) (fun _ _ _ => ⟨rfl, rfl⟩)
set_option maxRecDepth 100000 in
theorem an_k54_0_st (s : an_k54_0.σ) : an_k54_0.st s = (toL 26 (.node (.node (.node (.node (.node (.node (.node (.node (.leaf (.v (.one (.d (.sl ((L_k54_0.a_ s).map iC)))))) (.leaf (.v (.one (.d (.sl ((L_k54_0.b_ s).map iC))))))) (.leaf (.unk))) (.node (.node (.leaf (.unk)) (.leaf (.v (.one (.d (.sc (.int .i64 (L_k54_0.i s)))))))) (.leaf (.unk)))) (.leaf (.unk))) (.leaf (.unk))) (.leaf (.unk))) (.leaf (.unk))) (.leaf (.unk))), []) := rfl
set_option maxHeartbeats 4000000 in
set_option maxRecDepth 100000 in
theorem an_k54_0_un {β : Type} (p_a_ : List (List DV)) (p_b_ : List (List DV)) (i : Int) (f_ : an_k54_0.σ → Option β) : (an_k54_0.un [.v (.one (.d (.sl p_a_))), .v (.one (.d (.sl p_b_))), .unk, .unk, .unk, .v (.one (.d (.sc (.int .i64 i)))), .unk, .unk, .unk, .unk, .unk, .unk, .unk, .unk, .unk, .unk, .unk, .unk, .unk, .unk, .unk, .unk, .unk, .unk, .unk, .unk] []).bind f_ = (decL iD p_a_).bind fun a_ => (decL iD p_b_).bind fun b_ => f_ (L_k54_0.mk a_ b_ i) :=
  (mkAnn_un (σ := L_k54_0) _ _ _ _ _ _ _ _ _ f_).trans (by simp (maxSteps := 10000000) [Option.bind_assoc])
def T_k54 : List (Nat × LoopA) := [(0, .ty an_k54_0)]
set_option maxHeartbeats 20000000 in
set_option maxRecDepth 100000 in
noncomputable def pk_k54 : { F : (List Int) → (List Int) → Option (Bool) // CallC Go.Proofs.Tryz.prog 28 (con2 (eL ceI) (eL ceI) (fun x0 x1 => (F x0 x1).map (res1 rB).enc)) } :=
  ⟨_, cc2 E_k54 Go.Proofs.Tryz.func28 rfl rfl (T := T_k54) (G := []) (r := (res1 rB)) fun x0 x1 => by
    unfold Wf
    simp (maxSteps := 10000000) (implicitDefEqProofs := false) [-env0, -envI, env0_tree, envI_tree, -evOps, -evOne, -evOp, -evIndexAddr, -evIndex, -evPick, -binV, -evLoad, -evStore, -loadC, -callV, -nilC, -storeC, -toDVs, -toDAs, -resRs, List.lookup, List.replicate, List.range_succ, ty_k54, C_k54_ty, C_k54_eqs, C_k54_call, C_k54_calls, C_k54_scal, C_k54_owns, C_k54_vars, C_k54_ores, C_k54_flags, C_k54_pins, C_k54_inls, T_k54, Go.Proofs.Tryz.f28, an_k54_0_st, an_k54_0_un, iC, uC, bC, sC]
    try rfl⟩
noncomputable def F_k54 : (List Int) → (List Int) → Option (Bool) := pk_k54.1
noncomputable def M_k54 : List DA → Option (List RV) := con2 (eL ceI) (eL ceI) (fun x0 x1 => (F_k54 x0 x1).map (res1 rB).enc)
theorem cc_k54 : CallC Go.Proofs.Tryz.prog 28 M_k54 := pk_k54.2

end Go.Vm

/- What Go functions come to, as Lean functions: each with its contract. -/
set_option linter.unusedVariables false
set_option linter.unusedSimpArgs false
namespace Go.Vm
open Go Go.RowKit

theorem en_k84 : Enters Go.Proofs.Tryz.prog 8 := ⟨_, Go.Proofs.Tryz.func8, rfl, rfl⟩
def ty_k84 : List (Nat × TI) := [(35, { size := 5, bytes := 48, agg := true, zero := [.sc (.int .i64 0), .sc (.int .i64 0), .sc (.int .i64 0), .sc (.int .i64 0), .sc (.string "".toByteArray)], kind := .struct [(0, 1, false), (1, 1, false), (2, 1, false), (3, 1, false), (4, 1, false)] }), (48, { size := 32, bytes := 344, agg := true, zero := [.sc (.int .i64 0), .sc (.int .i64 0), .sc (.int .i64 0), .sc (.int .i64 0), .sc (.string "".toByteArray), .sc (.int .i64 0), .sc (.int .i64 0), .sc (.bool false), .sc (.int .i64 0), .sc (.int .i64 0), .sc (.int .i64 0), .sl [], .sl [], .sc (.int .i64 0), .sc (.int .i64 0), .sc (.int .i64 0), .sc (.int .i64 0), .sc (.int .i64 0), .sc (.int .i64 0), .sc (.string "".toByteArray), .sl [], .sc (.int .i64 0), .sc (.int .i64 0), .sc (.int .i64 0), .sc (.int .i64 0), .sc (.int .i64 0), .sc (.int .i64 0), .sc (.int .i64 0), .sc (.string "".toByteArray), .sl [], .sc (.int .i64 0), .sc (.bool false)], kind := .struct [(0, 5, true), (5, 1, false), (6, 1, false), (7, 15, true), (22, 9, true), (31, 1, false)] })]
noncomputable def C_k84 : Cfg := mkC ty_k84 [] [] [] [] [] [] []
theorem E_k84 : Env1 Go.Proofs.Tryz.prog C_k84 := mkC_ok (by kernel_rfl) trivial (by kernel_rfl)
theorem C_k84_ty : (C_k84).ty = ty_k84 := rfl
theorem C_k84_eqs : (C_k84).eqs = [] := rfl
theorem C_k84_call : (C_k84).call = fun f => (([] : List (Nat × (List DA → Option (List RV)))).lookup f).getD fun _ => none := rfl
theorem C_k84_calls : (C_k84).calls = [] := rfl
theorem C_k84_scal : (C_k84).scal = [] := rfl
theorem C_k84_owns : (C_k84).owns = [] := rfl
theorem C_k84_vars : (C_k84).vars = [] := rfl
theorem C_k84_ores : (C_k84).ores = [] := rfl
theorem C_k84_flags : (C_k84).flags = [] := rfl
theorem C_k84_pins : (C_k84).pins = [] := rfl
theorem C_k84_inls : (C_k84).inls = [] := rfl
def T_k84 : List (Nat × LoopA) := []
set_option maxHeartbeats 20000000 in
set_option maxRecDepth 100000 in
noncomputable def pk_k84 : { F : Op → Option (Task) // CallC Go.Proofs.Tryz.prog 8 (con1 (eT ceOp) (fun x0 => (F x0).map (res1 (rAgg ceTask)).enc)) } :=
  ⟨_, cc1 E_k84 Go.Proofs.Tryz.func8 rfl rfl (T := T_k84) (G := []) (r := (res1 (rAgg ceTask))) fun x0 => by
    unfold Wf
    simp (maxSteps := 10000000) (implicitDefEqProofs := false) [-env0, -envI, env0_tree, envI_tree, -evOps, -evOne, -evOp, -evIndexAddr, -evIndex, -evPick, -binV, -evLoad, -evStore, -loadC, -callV, -nilC, -storeC, -toDVs, -toDAs, -resRs, List.lookup, List.replicate, List.range_succ, ty_k84, C_k84_ty, C_k84_eqs, C_k84_call, C_k84_calls, C_k84_scal, C_k84_owns, C_k84_vars, C_k84_ores, C_k84_flags, C_k84_pins, C_k84_inls, T_k84, Go.Proofs.Tryz.f8, iC, uC, bC, sC, Acc.c, Event.c, Op.c, Plan.c, Result.c, Task.c, Tx.c]
    try rfl⟩
noncomputable def F_k84 : Op → Option (Task) := pk_k84.1
noncomputable def M_k84 : List DA → Option (List RV) := con1 (eT ceOp) (fun x0 => (F_k84 x0).map (res1 (rAgg ceTask)).enc)
theorem cc_k84 : CallC Go.Proofs.Tryz.prog 8 M_k84 := pk_k84.2

end Go.Vm

/- What Go functions come to, as Lean functions: each with its contract. -/
set_option linter.unusedVariables false
set_option linter.unusedSimpArgs false
namespace Go.Vm
open Go Go.RowKit

theorem en_k5a : Enters Go.Proofs.Tryz.prog 19 := ⟨_, Go.Proofs.Tryz.func19, rfl, rfl⟩
def ty_k5a : List (Nat × TI) := [(26, { size := 8, bytes := 64, agg := true, zero := [.sc (.int .i64 0), .sc (.int .i64 0), .sc (.int .i64 0), .sc (.int .i64 0), .sc (.int .i64 0), .sc (.int .i64 0), .sc (.int .i64 0), .sc (.int .i64 0)], kind := .struct [(0, 1, false), (1, 1, false), (2, 1, false), (3, 1, false), (4, 1, false), (5, 1, false), (6, 1, false), (7, 1, false)] }), (3, { size := 1, bytes := 8, agg := false, zero := [.sc (.int .i64 0)], kind := .int .i64 })]
noncomputable def C_k5a : Cfg := mkC ty_k5a [] [] [] [] [] [] []
theorem E_k5a : Env1 Go.Proofs.Tryz.prog C_k5a := mkC_ok (by kernel_rfl) trivial (by kernel_rfl)
theorem C_k5a_ty : (C_k5a).ty = ty_k5a := rfl
theorem C_k5a_eqs : (C_k5a).eqs = [] := rfl
theorem C_k5a_call : (C_k5a).call = fun f => (([] : List (Nat × (List DA → Option (List RV)))).lookup f).getD fun _ => none := rfl
theorem C_k5a_calls : (C_k5a).calls = [] := rfl
theorem C_k5a_scal : (C_k5a).scal = [] := rfl
theorem C_k5a_owns : (C_k5a).owns = [] := rfl
theorem C_k5a_vars : (C_k5a).vars = [] := rfl
theorem C_k5a_ores : (C_k5a).ores = [] := rfl
theorem C_k5a_flags : (C_k5a).flags = [] := rfl
theorem C_k5a_pins : (C_k5a).pins = [] := rfl
theorem C_k5a_inls : (C_k5a).inls = [] := rfl
def T_k5a : List (Nat × LoopA) := []
set_option maxHeartbeats 20000000 in
set_option maxRecDepth 100000 in
noncomputable def pk_k5a : { F : Config → Option (Bool) // CallC Go.Proofs.Tryz.prog 19 (con1 (eT ceConfig) (fun x0 => (F x0).map (res1 rB).enc)) } :=
  ⟨_, cc1 E_k5a Go.Proofs.Tryz.func19 rfl rfl (T := T_k5a) (G := []) (r := (res1 rB)) fun x0 => by
    unfold Wf
    simp (maxSteps := 10000000) (implicitDefEqProofs := false) [-env0, -envI, env0_tree, envI_tree, -evOps, -evOne, -evOp, -evIndexAddr, -evIndex, -evPick, -binV, -evLoad, -evStore, -loadC, -callV, -nilC, -storeC, -toDVs, -toDAs, -resRs, List.lookup, List.replicate, List.range_succ, ty_k5a, C_k5a_ty, C_k5a_eqs, C_k5a_call, C_k5a_calls, C_k5a_scal, C_k5a_owns, C_k5a_vars, C_k5a_ores, C_k5a_flags, C_k5a_pins, C_k5a_inls, T_k5a, Go.Proofs.Tryz.f19, iC, uC, bC, sC, Config.c]
    try rfl⟩
noncomputable def F_k5a : Config → Option (Bool) := pk_k5a.1
noncomputable def M_k5a : List DA → Option (List RV) := con1 (eT ceConfig) (fun x0 => (F_k5a x0).map (res1 rB).enc)
theorem cc_k5a : CallC Go.Proofs.Tryz.prog 19 M_k5a := pk_k5a.2

end Go.Vm
